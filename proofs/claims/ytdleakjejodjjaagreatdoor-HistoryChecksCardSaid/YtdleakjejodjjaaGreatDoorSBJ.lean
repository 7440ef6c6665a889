/- Of the history laws. -/
import Derived.Test.YtdleakjejodjjaaGreatDoorSBE
namespace Go.Proofs.YtdleakjejodjjaaGreatDoor
open Tryz
set_option linter.defProp false
set_option linter.unusedVariables false
set_option linter.unusedSimpArgs false
set_option maxRecDepth 100000
set_option maxHeartbeats 20000000
open Go.RowKit
section
section
variable {P:Program} {ops:Array Oper} {rest:List Oper} {o:Oper} {a a':Act} {w:Wd} {Q:Exit->Act->Wd->Prop}
def wa (v:Value) (h:wpList P ops Q rest a' w) (hw:Region.wanted o (yielded ops a.tmps)=true:=by kernel_rfl) (c:(execOp a.eval o).run P w=.ok (.value v) w:=by kernel_rfl)
  (b:a.put o.dst v=a':=by conv=>lhs;simp only [Act.put,Sv,Sz,Sw]):wpList P ops Q (o::rest) a w:=by
 subst b;exact V0 hw v c h
def wy {S:Wd->Prop} {v:Value} (y:YieldsIf P ops S o v a) (e:S w) (h:wpList P ops Q rest a' w)
  (c:a.put o.dst v=a':=by conv=>lhs;simp only [Act.put,Sv,Sz,Sw]):wpList P ops Q (o::rest) a w:=by
 subst c;rcases y with ⟨b,d⟩|⟨b,rfl⟩
 .exact V0 b v (d w e) h
 .exact wpList_skip b h
end
def chU {b:Bool} {P:Prop} (h:P):b=true\/(b=false/\P):=by
 cases b with
 |false=>exact .inr ⟨rfl,h⟩
 |true=>exact .inl rfl
theorem pM {G:Prop} (h:G:=by
  go_ret;exact ⟨⟨_,rfl,fun h=>by rcases h with h|h<;>exact absurd h (show ¬ (_:Int)=_ from Ac)⟩,HX.o.be⟩):G:=h
def Ks {e:En} {a:EnA} (hu:UsA e a) (w:Wd) (hw:EW [] w e a) (h1:e.alts.length<=1000) (h3:e.grants.length<=1000) (hz:e.name.size<=300):Calls prog 227 #[.agg (enC e a).toArray] w (OnB (e.kind=0\/e.kind=1) (vQ e) w):=by
 have HSA:=Hd fun W i=>(hw.below (w':=W) i).sa
 have HSG:=Hd fun W i=>(hw.below (w':=W) i).sg
 have F:=Hd fun W=>Is e.name W
 have K:=Hd fun W=>Lo e.name W hz
 have jZ:=Hd (And.intro h1 h3);have J:=Hd hz;have HX:=Hd (VX.new e a w);have HU:=Hd fun W=>Df hu W
 have HS:=Hd fun W i=>Lp e a W (hw.below i) h1 h3
 go_wp2;generalize w.alloc (.cells (enC e a).toArray 144)=W1 at HX ⊢;apply WzR (S:=VX e a w) (R:=Rb) (HX.next (Bf _ _).drew) (fun _ _ h i=>h.next i);apply xr (fun W h=>h.b) underlying144;apply xr (fun W h=>h.b) underlying144;apply xc (f:=292) (v:=.agg (enC e a).toArray) (fun W h hF=>HU W);apply xc (f:=231) (v:=.bool true) (fun W h hF=>HS W h.be);apply xA (v:=_);refine xn fun w4 Hh _=>?_
 have HX:=Hd Hh;clear Hh HU HS hw h1 h3 hz;cases hu with
 |k0 m d V u A C=>
  have dE:=Hd fun W=>oI d W
  have HA1:=Hd fun W i=>DA A V.length C V W (HSA W i) jZ.1
  have HD1:=Hd fun W=>LJ u W
  have M:=Hd (vq0 m d V u);dsimp only at F J K;generalize Uw m=N at F M;generalize Dc d=O at dE M;generalize (Jr V&&decide (V.length<=4))=X at HA1 M;generalize Uo u 0 65536=T at HD1 M;have k:=HX.c 0 _ rfl;have c1:=HX.c 1 _ rfl;have D:=HX.c 23 _ rfl;have E:=HX.c 24 _ rfl;rcases ch (b:=N) (ch (b:=O) (ch (b:=X) (ch0 T))) with rfl|⟨rfl,rfl|⟨rfl,rfl|⟨rfl,rfl|rfl⟩⟩⟩
  all_goals
   go_wp2_with (first|(go_at_call 293;refine yP (F _) fun r i=>?_;clear k c1 D E;have HX:=Hd (HX.next i);clear i;have k:=HX.c 0 _ rfl;have c1:=HX.c 1 _ rfl;have D:=HX.c 23 _ rfl;have E:=HX.c 24 _ rfl)|(go_at_call 230;refine yP (K _) fun r i=>?_;clear k c1 D E;have HX:=Hd (HX.next i);clear i;have k:=HX.c 0 _ rfl;have c1:=HX.c 1 _ rfl;have D:=HX.c 23 _ rfl;have E:=HX.c 24 _ rfl)|((with_reducible show wpList _ _ _ (⟨some 28,_,_,_,_,_⟩::_) _ _);refine wa (hw:=Af) (Ag w.1.size 2) ?_;refine wy (S:=VX ⟨0,m,d,V,u,0,0,false,⟨#[]⟩,⟨#[]⟩,0,0,[]⟩ ⟨A,C,none,0⟩ w) (WT Af 34 _ rfl w.1.size 2 rfl (dC d) _ (fun W hW j v hv=>by rw [hW.b.cell];have hj:j<21:=(QZ.1 hv).1;have h:=Jj (⟨0,m,d,V,u,0,0,false,⟨#[]⟩,⟨#[]⟩,0,0,[]⟩) (⟨A,C,none,0⟩) j hj;rw [<-hv,<-h];simp) underlying34 rfl Ak) HX ?_)|(go_at_call 294;refine yP (dE _) fun r i=>?_;clear k c1 D E;have HX:=Hd (HX.next i);clear i;have k:=HX.c 0 _ rfl;have c1:=HX.c 1 _ rfl;have D:=HX.c 23 _ rfl;have E:=HX.c 24 _ rfl)|(go_at_call 295;refine yP (HA1 _ HX.be) fun r i=>?_;clear k c1 D E;have HX:=Hd (HX.next i);clear i;have k:=HX.c 0 _ rfl;have c1:=HX.c 1 _ rfl;have D:=HX.c 23 _ rfl;have E:=HX.c 24 _ rfl)|(go_at_call 296;refine yE (HD1 _) ?_))
   all_goals
    go_ret;exact ⟨⟨_,rfl,fun _=>by rw [M.o];rfl⟩,HX.be⟩
 |k1 m li la em Z=>
  have fJ:=Hd fun W=>LD m W
  have iY:=Hd fun W=>Ip Z W
  have M:=Hd (vq1 m li la em Z);dsimp only at F J K;generalize Uw m=b9 at F;generalize Vt m=N at fJ M;generalize orW Z=b5 at iY M;obtain ⟨O,eb1⟩:∃ b,decide (1<=li)=b:=⟨_,rfl⟩
  obtain ⟨X,eb2⟩:∃ b,decide (li<=63)=b:=⟨_,rfl⟩
  obtain ⟨T,U⟩:∃ b,decide (0<=la)=b:=⟨_,rfl⟩
  obtain ⟨b4,eb4⟩:∃ b,decide (la<=9999)=b:=⟨_,rfl⟩
  rw [eb1,eb2,U,eb4] at M;have k:=HX.c 0 _ rfl;have c1:=HX.c 1 _ rfl;have s:=HX.c 25 _ rfl;have y:=HX.c 26 _ rfl;have l:=HX.c 28 _ rfl;rcases ch (b:=N) (ch (b:=O) (ch (b:=X) (ch (b:=T) (ch (b:=b4) (ch0 b5))))) with rfl|⟨rfl,rfl|⟨rfl,rfl|⟨rfl,rfl|⟨rfl,rfl|⟨rfl,rfl|rfl⟩⟩⟩⟩⟩
  all_goals
   go_wp2_with (first|(go_at_call 293;refine yP (F _) fun r i=>?_;clear k c1 s y l;have HX:=Hd (HX.next i);clear i;have k:=HX.c 0 _ rfl;have c1:=HX.c 1 _ rfl;have s:=HX.c 25 _ rfl;have y:=HX.c 26 _ rfl;have l:=HX.c 28 _ rfl)|(go_at_call 230;refine yP (K _) fun r i=>?_;clear k c1 s y l;have HX:=Hd (HX.next i);clear i;have k:=HX.c 0 _ rfl;have c1:=HX.c 1 _ rfl;have s:=HX.c 25 _ rfl;have y:=HX.c 26 _ rfl;have l:=HX.c 28 _ rfl)|(go_at_call 297;refine yP (fJ _) fun r i=>?_;clear k c1 s y l;have HX:=Hd (HX.next i);clear i;have k:=HX.c 0 _ rfl;have c1:=HX.c 1 _ rfl;have s:=HX.c 25 _ rfl;have y:=HX.c 26 _ rfl;have l:=HX.c 28 _ rfl)|(go_at_call 298;refine yP (iY _) fun r i=>?_;clear k c1 s y l;have HX:=Hd (HX.next i);clear i;have k:=HX.c 0 _ rfl;have c1:=HX.c 1 _ rfl;have s:=HX.c 25 _ rfl;have y:=HX.c 26 _ rfl;have l:=HX.c 28 _ rfl))
   all_goals
    go_ret;exact ⟨⟨_,rfl,fun _=>by rw [M.o];rfl⟩,HX.be⟩
 |k2 m t=>
  have HV2:=Hd fun W=>Is t W
  dsimp only at F J K;generalize Uw m=N at F;generalize Uw t=X at HV2;generalize (Xy m).1=sp1 at K;generalize (Xy m).2.1=sp2 at K;generalize (Xy m).2.2=O at K;obtain ⟨T,U⟩:∃ b,(t.toList == m.toList)=b:=⟨_,rfl⟩
  have k:=HX.c 0 _ rfl;have c1:=HX.c 1 _ rfl;have H:=HX.c 29 _ rfl;rcases ch (b:=N) (chU (b:=O) (ch (b:=X) (ch0 T))) with rfl|⟨rfl,rfl|⟨rfl,rfl|⟨rfl,rfl|rfl⟩⟩⟩
  all_goals
   go_wp2_with (first|(go_at_call 293;(with_reducible show Calls _ _ #[.string m] _ _);refine yP (F _) fun r i=>?_;clear k c1 H;have HX:=Hd (HX.next i);clear i;have k:=HX.c 0 _ rfl;have c1:=HX.c 1 _ rfl;have H:=HX.c 29 _ rfl)|(go_at_call 293;refine yP (HV2 _) fun r i=>?_;clear k c1 H;have HX:=Hd (HX.next i);clear i;have k:=HX.c 0 _ rfl;have c1:=HX.c 1 _ rfl;have H:=HX.c 29 _ rfl)|(go_at_call 230;refine yP (K _) fun r i=>?_;clear k c1 H;have HX:=Hd (HX.next i);clear i;have k:=HX.c 0 _ rfl;have c1:=HX.c 1 _ rfl;have H:=HX.c 29 _ rfl))
   all_goals
    exact pM
 |k3 m c=>
  have Y:=Hd fun W=>Ej m W (by have:=J.o;dsimp only at this;omega)
  dsimp only at F J K;generalize Uw m=N at F;generalize pcs m=L at Y;obtain ⟨n,hn⟩:=yG L.length;unfold PtG at Y;simp only [hn] at Y;obtain ⟨O,eb1⟩:∃ b,decide ((n:Int)<=2)=b:=⟨_,rfl⟩
  obtain ⟨X,eb2⟩:∃ b,decide (1<=c)=b:=⟨_,rfl⟩
  obtain ⟨T,U⟩:∃ b,decide (c<=15)=b:=⟨_,rfl⟩
  have k:=HX.c 0 _ rfl;have c1:=HX.c 1 _ rfl;have I:=HX.c 30 _ rfl;rcases ch (b:=N) (ch (b:=O) (ch (b:=X) (ch0 T))) with rfl|⟨rfl,rfl|⟨rfl,rfl|⟨rfl,rfl|rfl⟩⟩⟩
  all_goals
   go_wp2_with (first|(go_at_call 293;refine yP (F _) fun r i=>?_;clear k c1 I;have HX:=Hd (HX.next i);clear i;have k:=HX.c 0 _ rfl;have c1:=HX.c 1 _ rfl;have I:=HX.c 30 _ rfl)|(go_at_call 230;refine yP (K _) fun r i=>?_;clear k c1 I;have HX:=Hd (HX.next i);clear i;have k:=HX.c 0 _ rfl;have c1:=HX.c 1 _ rfl;have I:=HX.c 30 _ rfl)|(go_at_call 299;refine (Y _).mono ?_;rintro x r ⟨B,cc,rfl,_,i⟩;clear k c1 I;have HX:=Hd (HX.next i);clear i;have k:=HX.c 0 _ rfl;have c1:=HX.c 1 _ rfl;have I:=HX.c 30 _ rfl))
   all_goals
    exact pM
 |k4 m lv Z g A C=>
  have Y:=Hd fun W=>Rp m W
  have HL2:=Hd fun W=>LB lv W
  have iY:=Hd fun W=>Ip Z W
  have fJ:=Hd fun W i=>Ri A g.length C g W (HSG W i) jZ.2
  dsimp only at F J K;generalize Uw m=b9 at F;generalize Uo lv 0 3=N at HL2;generalize orW Z=O at iY;have k:=HX.c 0 _ rfl;have c1:=HX.c 1 _ rfl;have l:=HX.c 28 _ rfl;have p:=HX.c 31 _ rfl;have q:=HX.c 32 _ rfl;rcases ch (b:=N) (ch0 O) with rfl|⟨rfl,rfl|rfl⟩
  all_goals
   go_wp2_with (first|(go_at_call 293;refine yP (F _) fun r i=>?_;clear k c1 l p q;have HX:=Hd (HX.next i);clear i;have k:=HX.c 0 _ rfl;have c1:=HX.c 1 _ rfl;have l:=HX.c 28 _ rfl;have p:=HX.c 31 _ rfl;have q:=HX.c 32 _ rfl)|(go_at_call 230;refine yP (K _) fun r i=>?_;clear k c1 l p q;have HX:=Hd (HX.next i);clear i;have k:=HX.c 0 _ rfl;have c1:=HX.c 1 _ rfl;have l:=HX.c 28 _ rfl;have p:=HX.c 31 _ rfl;have q:=HX.c 32 _ rfl)|(go_at_call 300;refine (Y _).mono ?_;rintro x r ⟨⟨z,rfl⟩,i⟩;clear k c1 l p q;have HX:=Hd (HX.next i);clear i;have k:=HX.c 0 _ rfl;have c1:=HX.c 1 _ rfl;have l:=HX.c 28 _ rfl;have p:=HX.c 31 _ rfl;have q:=HX.c 32 _ rfl;cases z)|(go_at_call 301;refine yE (HL2 _) ?_)|(go_at_call 298;refine yP (iY _) fun r i=>?_;clear k c1 l p q;have HX:=Hd (HX.next i);clear i;have k:=HX.c 0 _ rfl;have c1:=HX.c 1 _ rfl;have l:=HX.c 28 _ rfl;have p:=HX.c 31 _ rfl;have q:=HX.c 32 _ rfl)|(go_at_call 302;refine (fJ _ HX.be).mono ?_;rintro x r ⟨⟨z,rfl⟩,i⟩;clear k c1 l p q;have HX:=Hd (HX.next i);clear i;have k:=HX.c 0 _ rfl;have c1:=HX.c 1 _ rfl;have l:=HX.c 28 _ rfl;have p:=HX.c 31 _ rfl;have q:=HX.c 32 _ rfl))
   all_goals
    exact pM
end
def Ya (n c a:Int) (w:Wd):Calls prog 121 #[.int .i64 n,.int .i64 c,.int .i64 a] w (Ae w (.bool (Uo n c a))):=by
 unfold Uo;generalize e:decide (c<=n)=b1;generalize d:decide (n<=a)=b2;rcases ch (b:=b1) (ch0 b2) with rfl|⟨rfl,rfl|rfl⟩
 all_goals
  go_wp2;go_ret;exact ⟨rfl,rfl⟩
def xZ (d:DSet):Yd d=((decide (d.org=1) || decide (d.org=2) || decide (d.org=3))&&Xf d.itv&&(Uo d.len 1 (min 200 (d.itv-7))&&(decide (d.fmt=0)&&decide (d.blk=0))) &&
  if d.org=3 then decide (d.len<=d.itv / 2-8)&&(Uo d.kat 0 200&&(Uo d.kln 1 (d.itv / 16)&&(decide (d.kat+d.kln<=d.len)&&(Uo d.area 2 8&&(Uo d.fi 0 90&&Uo d.fa 0 (d.area-1))))))
  else decide (d.kat=0)&&(decide (d.kln=0)&&(decide (d.area=0)&&(decide (d.fi=0)&&decide (d.fa=0))))):=by
 rw [XW];unfold Yd EF L4 Uo Xf;split
 all_goals
  simp only [QU,XU,QG,UT,IK,and_true];omega
def dne (x:Int):decide (x=0) = !(x != 0):=by by_cases h:x=0<;>simp [h]
def dee (x:Int):decide (x=0)=(x == 0):=by by_cases h:x=0<;>simp [h]
def Kh (d:DSet) (w:Wd):Calls prog 84 #[.agg (dC d).toArray] w (Ab w (.bool (Yd d))):=by
 have e:=xZ d;obtain ⟨R,hR⟩:=yG (Yd d);rw [hR] at e ⊢;obtain ⟨id,org,fmt,len,blk,kat,kln,itv,area,fi,fa,base,aat,aln,g,p,m,n,q,exp,h⟩:=d;have D:=Hd ((Bf w.1.size w).alloc (Le _) (.cells (dC ⟨id,org,fmt,len,blk,kat,kln,itv,area,fi,fa,base,aat,aln,g,p,m,n,q,exp,h⟩).toArray 34))
 have k:∀ (i:Nat) (v:Value),(dC ⟨id,org,fmt,len,blk,kat,kln,itv,area,fi,fa,base,aat,aln,g,p,m,n,q,exp,h⟩)[i]? =some v->(w.alloc (.cells (dC ⟨id,org,fmt,len,blk,kat,kln,itv,area,fi,fa,base,aat,aln,g,p,m,n,q,exp,h⟩).toArray 34)).cell? ⟨w.1.size,i,none⟩=some v:=fun i v hv=>by
  rw [(Blk.new w 34 _).cell];simpa using hv
 have c1:=k 1 _ rfl;have c2:=k 2 _ rfl;have c3:=k 3 _ rfl;have c4:=k 4 _ rfl;have c5:=k 5 _ rfl;have x:=k 6 _ rfl;have y:=k 7 _ rfl;have s:=k 8 _ rfl;have r:=k 9 _ rfl;have f:=k 10 _ rfl;dsimp only at e c1 c2 c3 c4 c5 x y s r f;simp only [dne fmt,dne blk,dee kat,dee kln,dee area,dee fi,dee fa] at e
 have l:IntKind.i64.wrap (kat+kln)=kat+kln\/(Uo kat 0 200&&Uo kln 1 (itv / 16))=false\/Xf itv=false:=by
  cases S:Uo kat 0 200
  .exact .inr (.inl rfl)
  cases h2:Uo kln 1 (itv / 16)
  .exact .inr (.inl rfl)
  cases h3:Xf itv
  .exact .inr (.inr rfl)
  have a:=winB_true.1 S;have b:=winB_true.1 h2;simp only [Xf,XU,QG] at h3;exact .inl (QL _ Oo)
 have t:IntKind.i64.wrap (area-1)=area-1\/Uo area 2 8=false:=by
  cases S:Uo area 2 8
  .exact .inr rfl
  have a:=winB_true.1 S;exact .inl (QL _ Oo)
 generalize H:min 200 (itv-7)=z at e;generalize T:itv / 2-8=F at e;generalize L:itv / 16=C at e l
 have hi:(itv=128/\z=121/\F=56/\C=8)\/(itv=256/\z=200/\F=120/\C=16)\/(itv=512/\z=200/\F=248/\C=32)\/((itv != 128)=true/\(itv != 256)=true/\(itv != 512)=true/\Xf itv=false):=by
  unfold Xf;by_cases a:itv=128
  .left;omega
  by_cases b:itv=256
  .right;left;omega
  by_cases c:itv=512
  .right;right;left;omega
  simp [a,b,c]
 have H1:=Hd fun W=>Ya len 1 z W
 have H2:=Hd fun W=>Ya kat 0 200 W
 have H3:=Hd fun W=>Ya kln 1 C W
 have Z:=Hd fun W=>Ya area 2 8 W
 have X:=Hd fun W=>Ya fi 0 90 W
 have H7:=Hd fun W=>Ya fa 0 (area-1) W
 generalize Uo len 1 z=K at e H1;generalize Uo kat 0 200=b2 at e H2 l;generalize Uo kln 1 C=Y at e H3 l;generalize Uo area 2 8=b5 at e Z t;generalize Uo fi 0 90=b6 at e X;generalize Uo fa 0 (area-1)=b7 at e H7;generalize e1:(fmt != 0)=O at e;generalize e2:(blk != 0)=J at e;generalize U:decide (len<=F)=q1 at e;generalize P:decide (kat+kln<=len)=q4 at e;generalize z1:(kat == 0)=y1 at e;generalize z2:(kln == 0)=y2 at e;generalize z3:(area == 0)=y3 at e;generalize z4:(fi == 0)=y4 at e;generalize z5:(fa == 0)=y5 at e;generalize o:((decide (org=1) || decide (org=2) || decide (org=3))&&Xf itv)=G at e;have u:=Hd e;have M:=Hd o;have N:=Hd hi;have HN:=Hd (And.intro U P);have HW:=Hd (And.intro l t);clear k hR e H T L o hi l t U P;go_in
 go_upto_region 1 with fail
 obtain ⟨W,Q⟩:=yG (w.alloc (.cells (dC ⟨id,org,fmt,len,blk,kat,kln,itv,area,fi,fa,base,aat,aln,g,p,m,n,q,exp,h⟩).toArray 34));rw [Q] at D c1 c2 c3 c4 c5 x y s r f;rw [Q];clear Q
 go_cut [30] from 3 to 30 (fun v I=>v=.bool (!G)/\I=W)
 case first=>
  have o:=M.o;by_cases j:org=1\/org=2\/org=3
  .rcases N.o with ⟨rfl,_⟩|⟨rfl,_⟩|⟨rfl,_⟩|⟨i1,i2,i3,A⟩
   rotate_left 3
   .rw [A,KG] at o;subst o;clear c2 c3 c4 c5 x s r f;rcases j with rfl|rfl|rfl
    all_goals
     go_wp2
     go_meet
     exact ⟨rfl,rfl⟩
   all_goals
    have:true=G:=by rw [<-o];simpa [Xf,or_assoc] using j
    subst this;clear c2 c3 c4 c5 x s r f o;rcases j with rfl|rfl|rfl
   all_goals
    go_wp2
    go_meet
    exact ⟨rfl,rfl⟩
  .have o1:(org != 1)=true:=As
   have o2:(org != 2)=true:=As
   have o3:(org != 3)=true:=As
   have o4:(decide (org=1) || decide (org=2) || decide (org=3))=false:=As
   rw [o4] at o;subst o;clear c2 c3 c4 c5 x y s r f j o4;go_wp2
   go_meet
   exact ⟨rfl,rfl⟩
 case rest=>
  obtain ⟨rfl,B⟩:=hcut;rw [B];clear B;cases G with
  |false=>
   clear c1 c2 c3 c4 c5 x y s r f;go_wp2;go_ret;exact ⟨by rw [u.o];rfl,D.o⟩
  |true=>
   go_upto_region 3 with fail
   go_cut [48] from 31 to 48 (fun v I=>v=.bool (!(K&&(!O&&!J)))/\I=W)
   case first=>
    rcases N.o with ⟨rfl,rfl,_⟩|⟨rfl,rfl,_⟩|⟨rfl,rfl,_⟩|⟨_,_,_,A⟩
    rotate_left 3
    .have:=M.o;rw [A,KG] at this;cases this
    all_goals
     clear c1 c5 x s r f;rcases ch (b:=K) (chU (b:=O) (ch0 J)) with rfl|⟨rfl,rfl|⟨rfl,rfl|rfl⟩⟩
    all_goals
     go_wp2_with (go_at_call 121;refine yE (H1.o _) ?_)
     go_meet
     exact ⟨rfl,rfl⟩
   case rest=>
    obtain ⟨rfl,B⟩:=hcut;rw [B];clear B;cases E:(K&&(!O&&!J)) with
    |false=>
     rw [E] at u;clear c1 c2 c3 c4 c5 x y s r f E;go_wp2;go_ret;exact ⟨by rw [u.o];rfl,D.o⟩
    |true=>
     rw [E] at u;clear E c2 c4 e1 e2;by_cases j:org=3
     .have o3:(org != 3)=false:=by simp [j]
      have V:Aw (R=(q1&&(b2&&(Y&&(q4&&(b5&&(b6&&b7))))))):=Hd (by rw [u.o,QK j];rfl);clear u z1 z2 z3 z4 z5 j;obtain ⟨U,P⟩:=HN.o;obtain ⟨l,t⟩:=HW.o;rcases N.o with ⟨rfl,_,rfl,rfl⟩|⟨rfl,_,rfl,rfl⟩|⟨rfl,_,rfl,rfl⟩|⟨_,_,_,A⟩
      rotate_left 3
      .have:=M.o;rw [A,KG] at this;cases this
      all_goals
       rcases ch (b:=q1) (ch (b:=b2) (ch (b:=Y) (ch (b:=q4) (ch (b:=b5) (ch (b:=b6) (ch0 b7)))))) with rfl|⟨rfl,rfl|⟨rfl,rfl|⟨rfl,rfl|⟨rfl,rfl|⟨rfl,rfl|⟨rfl,rfl|rfl⟩⟩⟩⟩⟩⟩
      all_goals
       first
        |(have l:=l.resolve_right Ac;have t:=t.resolve_right Ac)
        |(have l:=l.resolve_right Ac;clear t)
        |clear l t
       go_wp2_with (first|(go_at_call 121;(with_reducible show Calls _ _ #[.int .i64 kat,_,_] _ _);refine yE (H2.o _) ?_)|(go_at_call 121;(with_reducible show Calls _ _ #[.int .i64 kln,_,_] _ _);refine yE (H3.o _) ?_)|(go_at_call 121;(with_reducible show Calls _ _ #[.int .i64 area,_,_] _ _);refine yE (Z.o _) ?_)|(go_at_call 121;(with_reducible show Calls _ _ #[.int .i64 fi,_,_] _ _);refine yE (X.o _) ?_)|(go_at_call 121;(with_reducible show Calls _ _ #[.int .i64 fa,_,_] _ _);refine yE (H7.o _) ?_));go_ret;exact ⟨by rw [V.o];rfl,D.o⟩
     .have o3:(org != 3)=true:=by simp [j]
      have V:Aw (R=(y1&&(y2&&(y3&&(y4&&y5))))):=Hd (by rw [u.o,QX j];rfl);clear u j c3 y;rcases ch (b:=y1) (ch (b:=y2) (ch (b:=y3) (ch (b:=y4) (ch0 y5)))) with rfl|⟨rfl,rfl|⟨rfl,rfl|⟨rfl,rfl|⟨rfl,rfl|rfl⟩⟩⟩⟩
      all_goals
       go_wp2;go_ret;exact ⟨by rw [V.o];rfl,D.o⟩
def Ap2 {P:Program} {ops:Array Oper} {rest:List Oper} {o:Oper} {a:Act} {Q:Exit->Act->Wd->Prop} {s x:Operand} {t e:TypeId} {z:Value} {size b n m base B c:Nat} {A:Option Addr} {w:Wd} {v:Value} {xs news:List Value}
  (E:(P.info? e).map (fun i=>(i.zero,i.size,i.bytes))=some (some z,size,b)) (p:P.underlying t=some (.slice e)) (k:w.ownsRow base e size v n xs) (G:Rd w B size A m news) (C:∀ u∈news,u.oneCell'=true) (hn:n+m<=100000000000) (L:base<=w.1.size)
  (h:∀ d w',w'.ownsRow base e size d (n+m) (xs++news)->w.grownBy w' v.ownBlock->wpList P ops Q rest (a.put o.dst d) w')
  (J:z.cells.size=size:=by rfl) (y:0<size:=by decide) (q:b<=1000:=by decide) (f:o.guard=none:=by rfl)
  (F:o.op=.call { callee:=.builtin .append,args:=#[s,x],argTypes:=#[t,t] }:=by rfl) (I:a.eval s=v:=by rfl) (K:a.eval x=.slice A m c:=by rfl):wpList P ops Q (o::rest) a w:=by
 obtain ⟨D,r,M,l,g⟩:=WG E;refine Ui w f s x t F base e D z size b p r M l g J y v n xs I k B A m c news K G C (by unfold maxLen;omega) ?_ L fun d w' j H _=>h d w' j H
 have:(n+m)*b<=100000000000*1000:=JW hn q;omega
def sbL (n:Int) (k:Nat):List Int:=(List.range k).map fun j=>nb8 n (k-1-j)
def zR (n:Int) (k:Nat):sbL n (k+1)=nb8 n k::sbL n k:=by
 unfold sbL;rw [List.range_succ_eq_map,WS,JD];congr 1;refine VE fun j _=>?_
 simp only [Function.comp];congr 1;omega
def tU (n:Int) (k:Nat):(sbL n k).length=k:=by simp [sbL]
def j4:(prog.info? 5).map (fun i=>(i.zero,i.size,i.bytes))=some (some (.int .u8 0),1,1):=Ak
def xt (W:Wd) (base n c:Nat) (A:Option Addr) (xs:List Int) (h:W.ownsRow base 5 1 (.slice A n c) n (xs.map (Value.int .u8))) (hn:0<n) (j:xs.length=n):(convert 183 9 (.slice A n c)).run prog W=.ok (.string (strOfNums xs)) W:=by
 have e:=Rd.of_own h;obtain ⟨b,o,u,rfl,_⟩:=e.at_ hn;refine ZR W 183 5 Ak Ak b o n c xs j (fun i g=>?_) 9 Ak;obtain ⟨p,m,l,a,_,d,f⟩:=e.at_ g;injection a with a
 injection a with h1 h2 _
 subst h1;subst h2;rw [f];rw [YK] at d;obtain ⟨v,k,rfl⟩:=Option.map_eq_some_iff.1 d;rw [WJ,k];rfl
def EZ (n:Int) (w:Wd):Calls prog 88 #[.int .i64 n] w (StG (V8 n) w):=by
 unfold V8 Uo;generalize l:decide (0<=n)=b1;generalize g:decide (n<=1099511627776)=s;have I:decide (n<0) = !b1:=by rw [<-l];by_cases h:n<0<;>simp [h]<;>omega
 have H:decide (1099511627776<n) = !s:=by rw [<-g];by_cases h:1099511627776<n<;>simp [h]<;>omega
 rcases ch (b:=b1) (ch0 s) with rfl|⟨rfl,rfl|rfl⟩
 rotate_left 2
 .have n0:=ZZ l;have K:=ZZ g;have o:=Hd (WC (e:=5) (base:=w.1.size) (size:=1) w #[] 0 (Le _) Ac rfl);clear l g;go_wp2;go_loopw [0,3,4] (fun m v i wr=>∃ k:Nat,k<=8/\i=.int .i64 k/\m=.int .i64 (n / 2 ^ (8*k))/\wr.ownsRow w.1.size 5 1 v k ((sbL n k).map (Value.int .u8))/\Below w.1.size w wr) (fun _ _ i _=>8-(intOf i).toNat)
  .exact ⟨0,Ac,rfl,Am,by simpa [sbL] using o.o,Aj⟩
  .obtain ⟨k,hk,rfl,rfl,a,hb⟩:=hrel;obtain ⟨A,c,rfl,_⟩:=U4 a;have j:=Hd hb;have o:=Hd a;by_cases y:k<8
   .have d1:decide ((k:Int)<8)=true:=QQ Oo;have i6:0<=n / 2 ^ (8*k):=Int.ediv_nonneg n0 (Int.le_of_lt (Int.pow_pos Ac))
    have p:n / 2 ^ (8*(k+1))=n / 2 ^ (8*k) / 256:=by
     rw [Int.ediv_ediv_of_nonneg (Int.le_of_lt (Int.pow_pos Ac))];rw [Nat.mul_add,Int.pow_add];rfl
    have z:n / 2 ^ (8*k)<=n:=Int.ediv_le_self _ n0;have d:nb8 n k=n / 2 ^ (8*k) % 256:=rfl;have t:=Hd p;have f:=Hd d;generalize n / 2 ^ (8*k)=m at i6 z t f ⊢;have J:IntKind.u8.wrap (m % 256)=m % 256:=by rw [ZX];omega
    have q:=Hd y;clear a hb hk p d;go_wp2_with (at_builtin;go_must (refine Ap2 j4 underlying183 (WC (e:=5) (base:=wr.1.size) (size:=1) wr #[.int .u8 (m % 256)] 1 (Le _) Ac rfl) (Rd.of_own (o.o.alloc _)) (fun u C=>by obtain ⟨x,_,rfl⟩:=YY.1 C;rfl) (by have:=q.o;omega) (U6 _ _) ?_;intro E F a r;have D:=Hd a;have B:=Hd r;clear a r));go_roundw
    .refine ⟨k+1,q.o,Au,by rw [t.o],?_,j.o.trans (Aj.grown B.o (U6 _ _) (U9 (WC (e:=5) (base:=wr.1.size) (size:=1) wr #[.int .u8 (m % 256)] 1 (Le _) Ac rfl) (Le _)) |>.mono j.o.size)⟩;have h:=X7 D.o j.o.size;rw [zR,f.o,UZ k 1];exact h
    .exact At
   .obtain rfl:k=8:=Oo
    have G:=xt wr _ 8 c A _ o.o Ac (tU n 8);clear a hb hk;go_wp2;go_ret;exact ⟨rfl,j.o⟩
 all_goals
  clear l g;go_wp2;go_ret;exact ⟨rfl,Bf _ _⟩
def M0 (s:Bz):∀ (f:Nat) (n:Int),0<=n->n*256 ^ f<=Yz s f n
 |0,n,_=>by simp [Yz]
 |f+1,n,h=>by
  have a:=M0 s f (n*256+(bAt s (7-f):Int)) Oo;have c:(n*256)*256 ^ f<=(n*256+(bAt s (7-f):Int))*256 ^ f:=Int.mul_le_mul_of_nonneg_right Oo (Int.le_of_lt (Int.pow_pos Ac));have b:n*256 ^ (f+1)=(n*256)*256 ^ f:=by rw [IV,Int.mul_assoc,Int.mul_comm (256 ^ f) 256]
  unfold Yz;omega
def M4 (s:Bz) (f:Nat) (n:Int) (h:0<=n):n<=Yz s f n:=by
 have b:=M0 s f n h;have a:n*1<=n*256 ^ f:=Int.mul_le_mul_of_nonneg_left (Int.pow_pos Ac) h;omega
def pJ {G:Prop} (h:G:=by
  go_wp2
  go_ret2
  exact ⟨rfl,rfl⟩):G:=h
def Zl (s:Bz) (w:Wd):Calls prog 86 #[.string s] w (Ae w (.tuple #[.int .i64 (Uc s).1,.bool (Uc s).2])):=by
 obtain ⟨R,a⟩:=yG (Uc s);rw [a];rw [Gv] at a;by_cases q:s.size=8
 .rw [QX Oo] at a;obtain ⟨e,r⟩:∃ b,(s[0]).toNat=b:=⟨_,rfl⟩
  obtain ⟨n,t⟩:∃ b,(s[1]).toNat=b:=⟨_,rfl⟩
  have o:=Vs s 0 Oo;have p:=Vs s 1 Oo;rw [r] at o;rw [t] at p
  have k:Yz s 8 0=Yz s 6 ((e:Int)*256+(n:Int)):=by
   simp only [Yz,Nat.reduceSub,o,p];rw [Int.zero_mul,Int.zero_add]
  have F:((s.size:Int) != 8)=false:=by simp [q]
  have K:=Hd q;by_cases hz:e=0/\n=0
  .obtain ⟨rfl,rfl⟩:=hz;obtain ⟨N,c⟩:=yG (Yz s 8 0);rw [c] at a k
   have l:N<281474976710656:=by
    have:=Fb s 2;have:=Fb s 3;have:=Fb s 4;have:=Fb s 5;have:=Fb s 6;have:=Fb s 7;rw [k];simp only [Yz,Nat.reduceSub];omega
   have C:=Hd c;have B:=Hd a;have L:=Hd l;clear k c a o p;go_wp2;go_loop [4,5] (fun m i=>∃ (j f:Nat) (x:Int),j+f=8/\i=.int .i64 j/\m=.int .i64 x/\0<=x/\x<=N/\Yz s f x=N) (fun _ i=>8-(intOf i).toNat)
   .exact ⟨0,8,0,rfl,rfl,rfl,XI _,by rw [<-C.o];exact M4 s 8 0 (XI _),C⟩
   .obtain ⟨j,f,x,hjf,rfl,rfl,hx0,hx1,aG⟩:=hrel
    match f,hjf,aG with
    |0,hjf,aG=>
     obtain rfl:j=8:=Oo
     obtain rfl:x=N:=aG;clear r t aG l;by_cases d:1099511627776<x
     .have A:decide ((1099511627776:Int)<x)=true:=QQ d;have g:=B.o;rw [QK d] at g;subst g;clear d;go_wp2
      go_ret2
      exact ⟨rfl,rfl⟩
     .have A:decide ((1099511627776:Int)<x)=false:=QW d;have g:=B.o;rw [QX d] at g;subst g;clear d;go_wp2
      go_ret2
      exact ⟨rfl,rfl⟩
    |f+1,hjf,aG=>
     have D:j<s.size:=Oo
     obtain ⟨b,z⟩:=yG ((s[j]).toNat);have H:=(s[j]).toNat_lt;rw [z] at H;have A:decide ((j:Int)<8)=true:=QQ Oo;have y:7-f=j:=Oo
     have u:Yz s f (x*256+(b:Int))=N:=by
      rw [<-aG,<-z,<-Vs s j D,<-y];rfl
     have v:=M4 s f (x*256+(b:Int)) Oo;rw [u] at v;have I:=Hd u;clear aG u y r t;go_wp2
     go_round
     .exact ⟨j+1,f,_,Oo,Au,rfl,Oo,v,I⟩
     .exact At
  .have hbig:1099511627776<Yz s 8 0:=by
    have h:=M0 s 6 ((e:Int)*256+(n:Int)) Oo;rw [<-k] at h;omega
   rw [QK hbig] at a;subst a;clear hbig k o p;by_cases E:0<e
   .clear hz;exact pJ
   .obtain rfl:e=0:=Oo
    have J:0<n:=Oo
    clear hz E;exact pJ
 .have F:((s.size:Int) != 8)=true:=As
  rw [QK q] at a;subst a;clear q;exact pJ
structure DX (d:DSet) (w W:Wd):Prop where
 b:Blk W w.1.size 34 (dC d).toArray
 be:Below w.1.size w W
def DX.next {d:DSet} {w W W':Wd} (h:DX d w W) (a:Below W.1.size W W'):DX d w W':=⟨h.b.below a h.b.lt,h.be.trans (a.mono h.be.size)⟩
def DX.new (d:DSet) (w:Wd):DX d w (Aa w (dC d).toArray 34):=⟨Blk.new w _ _,Aj⟩
def DX.c {d:DSet} {w W:Wd} (h:DX d w W) (i:Nat) (v:Value) (a:(dC d)[i]? =some v):W.cell? ⟨w.1.size,i,none⟩=some v:=by rw [h.b.cell];simpa using a
def mY {G:Prop} (h:G:=by
  go_in;go_wp2_with (first|(with_reducible refine yL 34 2 HX.o.b ?_)|(go_at_call 84;refine yT (HV.o _) HX.o.next fun w2 aJ=>?_;have g1:=aJ.o.c 1 _ rfl;have g3:=aJ.o.c 3 _ rfl;have g5:=aJ.o.c 5 _ rfl;have g6:=aJ.o.c 6 _ rfl;rw [HE.o.2.2] at g3;rw [HE.o.1] at g5;rw [HE.o.2.1] at g6))
  go_ret2
  first
   |refine ⟨?_,aJ.o.be⟩
    have hx:(r.extract (a:Int).toNat r.size).extract 0 (b:Int).toNat=r.extract a (a+b):=by
     rw [ByteArray.extract_extract,XO,XO,QF,ZI Oo]
    rw [hx] at HR;rw [<-HR.o];rfl
   |exact ⟨by rw [<-HR.o];first|rfl|(rw [KG];rfl),aJ.o.be⟩):G:=h
def si (d:DSet) (r:Bz) (w:Wd) (e:r.size<=maxLen):
  Calls prog 85 #[.agg (dC d).toArray,.string r] w (Ab w (.tuple #[.string (ofF d r).1,.int .i64 (ofF d r).2])):=by
 have HX:=Hd (DX.new d w);have HV:=Hd fun W=>Kh d W
 have i:=@Mb d;have s:r.size<=2 ^ 63-1:=by unfold maxLen at e;exact e
 clear e;obtain ⟨R,c⟩:=yG (ofF d r);rw [c];unfold ofF at c;obtain ⟨z,hz⟩:=yG (Yd d);rw [hz] at c i;simp only [hz] at HV;clear hz;cases z with
 |false=>
  rw [QK rfl] at c;subst c;clear i;go_in;go_wp2_with (first|(with_reducible refine yL 34 2 HX.o.b ?_)|(go_at_call 84;refine yT (HV _) HX.o.next fun w2 aJ=>?_))
  go_ret2
  exact ⟨rfl,aJ.o.be⟩
 |true=>
  rw [QX Ac] at c;by_cases f:d.org=3
  .obtain ⟨q1,q2,q3,q4⟩:=i rfl f;rw [QX (by simpa using f)] at c;have l:(d.org != 3)=false:=by simpa using f
   obtain ⟨a,k⟩:∃ a:Nat,d.kat=a:=⟨d.kat.toNat,Oo⟩
   obtain ⟨b,j⟩:∃ b:Nat,d.kln=b:=⟨d.kln.toNat,Oo⟩
   obtain ⟨L,g⟩:=yG d.len;have g1:=HX.o.c 1 _ rfl;unfold Uo at c;rw [k,j,g] at c;rw [k,j,g] at q3;rw [g] at q4;generalize m:decide ((a:Int)+(b:Int)<=(r.size:Int))=n at c;generalize o:decide ((r.size:Int)<=L)=b2 at c;have q:decide ((r.size:Int)<(a:Int)+(b:Int)) = !n:=by rw [<-m];by_cases h:(r.size:Int)<(a:Int)+(b:Int)<;>simp [h]<;>omega
   have t:decide (L<(r.size:Int)) = !b2:=by rw [<-o];by_cases h:L<(r.size:Int)<;>simp [h]<;>omega
   have HR:=Hd c;have p:=Hd m;have HE:Aw (d.kat=a/\d.kln=b/\d.len=L):=Hd ⟨k,j,g⟩;clear c m o k j g i g1 q1 q2 f;rcases ch (b:=b2) (ch0 n) with rfl|⟨rfl,rfl|rfl⟩
   rotate_left 2
   .have bF:=ZZ p;exact mY
   all_goals
    exact mY
  .have l:(d.org != 3)=true:=by simpa using f
   rw [QK f] at c;subst c;clear i f;go_in;go_wp2_with (first|(with_reducible refine yL 34 2 HX.o.b ?_)|(go_at_call 84;refine yT (HV _) HX.o.next fun w2 aJ=>?_;have g1:=aJ.o.c 1 _ rfl))
   go_ret2
   exact ⟨rfl,aJ.o.be⟩
section
variable {e:TypeId} {size n:Nat} {w:Wd} {news:List Value} {x:Cnt} {W:Wd}
def ta {P:Program} {j:Region.Mode} {ops:Array Oper} {Q:Exit->Act->Wd->Prop} {f:Nat} {b:Array Bool} {o:Oper} {a:Act} {s x:Operand} {t:TypeId} {z:Value} {d m base B c:Nat} {A:Option Addr} {v:Value} {xs:List Value} (i:Nat)
  (H:(P.info? e).map (fun i=>(i.zero,i.size,i.bytes))=some (some z,size,d)) (r:P.underlying t=some (.slice e)) (p:w.ownsRow base e size v n xs) (J:Rd w B size A m news) (E:∀ u∈news,u.oneCell'=true) (hn:n+m<=100000000000) (T:base<=w.1.size)
  (h:∀ g w',w'.ownsRow base e size g (n+m) (xs++news)->w.grownBy w' v.ownBlock->wpAnyH P j ops Q (fun _=>True) f (b.setIfInBounds i true) (a.put o.dst g) w')
  (O:ops[i]? =some o:=by simp only [Ga,Gz,Gn];rfl)
  (I:o.op=.call { callee:=.builtin .append,args:=#[s,x],argTypes:=#[t,t] }:=by rfl) (S:Region.ready j ops b=[i]:=by kernel_rfl)
  (M:a.eval s=v:=by rfl) (R:a.eval x=.slice A m c:=by rfl) (hw:Region.wanted o (yielded ops a.tmps)=true:=by rfl)
  (N:z.cells.size=size:=by rfl) (D:0<size:=by decide) (y:d<=1000:=by decide):wpAnyH P j ops Q (fun _=>True) (f+1) b a w:=by
 obtain ⟨G,C,U,q,k⟩:=WG H;refine Ar S Am (XX O (fun K F=>?_) An);rw [QK hw];refine Tc w s x t I base e G z size d r C U q k N D v n xs M p B A m c news R J E (by unfold maxLen;omega) ?_ T fun g w' l L _=>F.out _ _ trivial fun _=>h g w' l L
 have:(n+m)*d<=100000000000*1000:=JW hn y;omega
def NN (d:DSet):List Int:=[d.id,d.org,d.fmt,d.len,d.blk,d.kat,d.kln,d.itv,d.area,d.fi,d.fa,d.base,d.aat,d.aln,d.cls,d.cre,d.exp]
def OwP (B:Nat) (L:List Int) (x:Value) (w:Wd):Prop:=w.ownsRow B 3 1 x L.length (L.map (Value.int .i64))
def TE (d:DSet) (w:Wd):Calls prog 112 #[.agg (dC d).toArray] w fun e w'=>∃ x,e=.returned x/\OwP w.1.size (NN d) x w'/\Below w.1.size w w':=by
 have a:∀ (i:Nat) (v:Value),(dC d)[i]? =some v->(w.alloc (.cells (dC d).toArray 34)).cell? ⟨w.1.size,i,none⟩=some v:=fun i v l=>by
  rw [(Blk.new w 34 _).cell];simpa using l
 have r:=a 0 _ rfl;have c1:=a 1 _ rfl;have c2:=a 2 _ rfl;have c3:=a 3 _ rfl;have c4:=a 4 _ rfl;have c5:=a 5 _ rfl;have s:=a 6 _ rfl;have q:=a 7 _ rfl;have o:=a 8 _ rfl;have p:=a 9 _ rfl;have g:=a 10 _ rfl;have c:=a 11 _ rfl;have b:=a 12 _ rfl;have k:=a 13 _ rfl;have f:=a 15 _ rfl;have m:=a 18 _ rfl;have j:=a 19 _ rfl;clear a;go_wp2;go_ret;have h:=WC (e:=3) (base:=w.1.size) (size:=1) (w.alloc (.cells (dC d).toArray 34)) ((NN d).map (Value.int .i64)).toArray 17 (U6 _ _) Ac rfl;exact ⟨_,rfl,by simpa [OwP,NN] using h,Aj.alloc Am _⟩
def ET {g:Nat} (h:Blk w g e news.toArray) (a:news.length=n*size):Rd w w.1.size size (Ah g 0) n news:=
 ⟨a,fun _=>⟨g,0,rfl,h.lt,fun j u b=>by rw [QB,h.cell];simpa using b⟩⟩
structure AX (x:Cnt) (w W:Wd):Prop where
 b:Blk W w.1.size 129 (cnC x).toArray
 be:Below w.1.size w W
def AX.next {W':Wd} (h:AX x w W) (a:Below W.1.size W W'):AX x w W':=⟨h.b.below a h.b.lt,h.be.trans (a.mono h.be.size)⟩
def AX.c (h:AX x w W) (i:Nat) (v:Value) (a:(cnC x)[i]? =some v):W.cell? ⟨w.1.size,i,none⟩=some v:=by rw [h.b.cell];simpa using a
def AX.mid (h:AX x w W):W.rangeAt w.1.size 0 (dC x.d):=by
 intro j v a;refine h.c (0+j) v ?_;obtain ⟨b,c⟩:=QZ.1 a;rw [QB,cnC,WF b,a]
def AX.new (x:Cnt) (w:Wd):AX x w (w.alloc (.cells (cnC x).toArray 129)):=⟨Blk.new w _ _,Aj⟩
def Nl (x:Cnt) (w:Wd) (N:CW w x):Calls prog 80 #[.agg (cnC x).toArray] w (Ab w (.bool (Y9 x.d x.ap x.ps))):=by
 have HX:=Hd (AX.new x w);have HS:=Hd N.sl;have s:=N.sl.len;have bF:=N.le;obtain ⟨R,hR⟩:=yG (Y9 x.d x.ap x.ps);rw [hR];have HR:=Hd hR;have X:=Hd bF;have fQ:=Hd s;clear hR N s bF;go_wp2;generalize w.alloc (.cells (cnC x).toArray 129)=W1 at HX ⊢;apply Bi 6 2 (S:=AX x w) (R:=Rb) (S':=fun _=>True) (HX.next (Bf _ _).drew) (fun _ _ h l=>h.next l);apply xA (v:=_);apply xp (.agg (dC x.d).toArray) (WT Af 34 _ Af w.1.size 0 Af (dC x.d) _ (fun W hW=>hW.mid) underlying34 Af Ak);apply xk (f:=112) (p:=OwP (w.1.size+1) (NN x.d)) (fun v W W' l h=>Ub h l) (fun W h _=>(TE x.d W).mono fun e W' ⟨v,he,ho,l⟩=>⟨v,he,X7 ho h.b.lt,l⟩);intro v1;apply xA (v:=_);apply xl (.int .i64 x.ap) (fun W h=>h.c 21 _ rfl);apply xb 3 1 #[.int .i64 x.ap];intro v2
 refine xn fun W M U=>?_
 obtain ⟨g,rfl,r⟩:=U _ (.head _);have a:OwP (w.1.size+1) (NN x.d) v1 W:=U _ (.tail _ (.head _));obtain ⟨A1,c1,rfl,_⟩:=U4 a;refine ta 6 px underlying67 a (ET r rfl) (C1 x.ap) (by show 17+1<=100000000000;decide) M.b.lt (fun v' w' Q Y=>?_);refine tA 7 trivial ?_;refine Ad Ak ?_ _;have q:Aw (AX x w w'):=Hd ⟨M.b.grown Y (fun h=>Yy a (.inl (JJ _)) h.symm),M.be.grown Y M.be.size (U9 a (JX _))⟩;obtain ⟨A,c,wF,_⟩:=U4 Q
 replace wF:v'=.slice A 18 c:=wF
 subst wF;have HO:=Hd (Rd.of_own Q);have C:((NN x.d).map (Value.int .i64)++[Value.int .i64 x.ap])=(arL x.d x.ap).map (Value.int .i64):=rfl;have HQ:Aw (Rd w' w'.1.size 1 A 18 ((arL x.d x.ap).map (Value.int .i64))):=Hd (by rw [<-C];exact HO);have B:Aw ((arL x.d x.ap).length=18):=Hd rfl;have V:Aw (R=(!((arL x.d x.ap).any fun n => !In n)&&(!(decide (31<x.d.own.size) || decide (31<x.d.vol.size) || decide (1024<x.ps.length))&&!(x.ps.any IG)))):=Hd (by rw [<-HR.o,Y9,ZL];rfl);generalize arL x.d x.ap=L at HQ B V;clear Q Y a r U M HO C;go_wp2;go_loop [4] (fun i=>∃ j:Nat,j<=18/\i=.int .i64 j/\∀ t,t<j->∀ e,L[t]? =some e->In e=true) (fun i=>18-(intOf i).toNat)
 .exact ⟨0,Z0 _,rfl,fun t h=>absurd h Oo⟩
 .obtain ⟨j,hj,rfl,hall⟩:=hrel;have HA:=Hd hall;clear hall;by_cases z:j<18
  .obtain ⟨b,o,u,rfl,_,r,aB⟩:=HQ.o.at_ z;rw [YK] at r;obtain ⟨m,hm,rfl⟩:=Option.map_eq_some_iff.1 r;have HM:=Hd hm;have d1:decide ((j:Int)<18)=true:=QQ Oo;have d2:decide (j<18)=true:=QQ z;clear r hm;have J:In m=false->R=false:=fun h=>by rw [V.o,Ve (p:=In) HM.o h];rfl
   have H:=Hd J;clear J;by_cases D:0<=m
   .have O:decide (m<0)=false:=QW Oo;by_cases G:m<=1099511627776
    .have P:decide (1099511627776<m)=false:=QW Oo;have I:In m=true:=by simp [In,D,G]
     have bV:=Hd I;clear I D G;go_wp2
     go_round
     .exact ⟨j+1,Oo,Au,Xk HA HM bV⟩
     .exact At
    .have P:decide (1099511627776<m)=true:=QQ Oo;have d:=H (by simp [In,G]);have E:=Hd d;clear d D G;go_wp2;go_ret;exact ⟨by rw [E.o];rfl,q.be⟩
   .have O:decide (m<0)=true:=QQ Oo;have d:=H (by simp [In,D]);have E:=Hd d;clear d D;go_wp2;go_ret;exact ⟨by rw [E.o];rfl,q.be⟩
  .obtain rfl:j=18:=Oo
   have K:Aw (R=(!(decide (31<x.d.own.size) || decide (31<x.d.vol.size) || decide (1024<x.ps.length))&&!(x.ps.any IG))):=Hd (by rw [V.o,Yb (p:=In) B.o HA.o];rfl);have T:=q.c 22 _ rfl;have c16:=q.c 16 _ rfl;have c17:=q.c 17 _ rfl;clear hj z;go_wp2;go_loop [5] (fun i=>∃ j:Nat,j<=x.pn/\i=.int .i64 j/\∀ t,t<j->∀ e,x.ps[t]? =some e->(!IG e)=true) (fun i=>x.pn-(intOf i).toNat)
   .exact ⟨0,Z0 _,rfl,fun t h=>absurd h Oo⟩
   .obtain ⟨j,hj,rfl,hall⟩:=hrel;have HB:=Hd hall;clear hall;by_cases z:j<x.pn
    .obtain ⟨b,o,y,gU,l,r,aB⟩:=Sl.cell (f:=prC) (k:=2) (fun _=>rfl) (HS.below q.be) z;rw [gU] at T;have c0:=aB 0 _ rfl;have c1:=aB 1 _ rfl;simp only [QF] at c0;have HG:=Hd r;have d1:decide ((j:Int)<(x.pn:Int))=true:=QQ Oo;have d2:decide (j<x.pn)=true:=QQ z;have HT:=Hd z;have J:IG y=true->R=false:=fun h=>by rw [K.o,show x.ps.any IG=true from VW.2 ⟨y,QJ HG.o,h⟩,Bool.not_true,KG]
     have H:=Hd J;clear J r aB l gU;by_cases D:32<y.key.size
     .have O:decide ((32:Int)<(y.key.size:Int))=true:=QQ Oo;have d:=H (by simp [IG,D]);have E:=Hd d;clear d;go_wp2;go_ret;exact ⟨by rw [E.o];rfl,q.be⟩
     .have O:decide ((32:Int)<(y.key.size:Int))=false:=QW Oo;by_cases G:1000<y.rcd.size
      .have P:decide ((1000:Int)<(y.rcd.size:Int))=true:=QQ Oo;have d:=H (by simp [IG,G]);have E:=Hd d;clear d;go_wp2;go_ret;exact ⟨by rw [E.o];rfl,q.be⟩
      .have P:decide ((1000:Int)<(y.rcd.size:Int))=false:=QW Oo;have l:(!IG y)=true:=by simp [IG,D,G]
       have Z:=Hd l;have hw:IntKind.i64.wrap ((j:Int)+1)=(j:Int)+1:=QL _ (by have:=X.o;omega);clear l;go_wp2
       go_round
       .exact ⟨j+1,HT,Au,Xk HB HG Z⟩
       .have:=HT.o;simp [intOf];omega
    .have gG:x.pn=j:=Oo
     have hq:=Yb (p:=fun y => !IG y) fQ (fun t ht=>HB t Oo);simp only [Bool.not_not] at hq;have hf:decide (1024<x.ps.length)=false:=QW (by rw [fQ.o];have:=X.o;omega)
     have F:Aw (R=(decide ((x.d.own.size:Int)<=31)&&decide ((x.d.vol.size:Int)<=31))):=Hd (by
      have e:∀ n:Nat,decide ((n:Int)<=31) = !decide (31<n):=fun n=>by by_cases h:31<n<;>simp [h]<;>omega
      rw [K.o,hf,show x.ps.any IG=false from hq,e,e];cases decide (31<x.d.own.size)<;>cases decide (31<x.d.vol.size)<;>rfl)
     have d3:decide ((j:Int)<(x.pn:Int))=false:=QW Oo;have d4:decide (j<x.pn)=false:=QW Oo;have d5:decide ((x.pn:Int)<=1024)=true:=QQ (by have:=X.o;omega);generalize O:decide ((x.d.own.size:Int)<=31)=b1 at F;generalize P:decide ((x.d.vol.size:Int)<=31)=b2 at F;clear gG z hj hq hf;rcases ch (b:=b1) (ch0 b2) with rfl|⟨rfl,rfl|rfl⟩
     all_goals
      go_wp2;go_ret;exact ⟨by rw [F.o];rfl,q.be⟩
end
section
def P7 (l b:Int) (w:Wd):Calls prog 118 #[.int .i64 l,.int .i64 b] w (Ae w (.bool (fvB l b))):=by
 have c:fvB l b=(decide (1<=l)&&(decide (l<=1000)&&(decide (l<=b)&&decide (b<=1024)))):=by
  unfold fvB;simp only [ZL]
 rw [c];generalize h:decide (1<=l)=b1;generalize f:decide (l<=1000)=d;generalize j:decide (l<=b)=b3;generalize g:decide (b<=1024)=e;clear c;rcases ch (b:=b1) (ch (b:=d) (ch (b:=b3) (ch0 e))) with rfl|⟨rfl,rfl|⟨rfl,rfl|⟨rfl,rfl|rfl⟩⟩⟩
 all_goals
  go_wp2;go_ret;exact ⟨rfl,rfl⟩
def BC (l b:Int) (w:Wd):Calls prog 119 #[.int .i64 l,.int .i64 b] w (Ae w (.bool (vvB l b))):=by
 have d:vvB l b=(decide (1<=l)&&(decide (l<=1000)&&(decide (l+8<=b)&&decide (b<=1024)))):=by
  unfold vvB;simp only [ZL]
 rw [d];generalize e:decide (1<=l)=b1;generalize c:decide (l<=1000)=f;generalize j:decide (l+8<=b)=b3;generalize h:decide (b<=1024)=g
 have hw:b1=true->f=true->IntKind.i64.wrap (l+8)=l+8:=fun a b=>by
  rw [a] at e;rw [b] at c;exact QL _ (by have:=ZZ e;have:=ZZ c;omega)
 clear d;rcases ch (b:=b1) (ch (b:=f) (ch (b:=b3) (ch0 g))) with rfl|⟨rfl,rfl|⟨rfl,rfl|⟨rfl,rfl|rfl⟩⟩⟩
 all_goals
  try have hw:=hw rfl rfl
  go_wp2;go_ret;exact ⟨rfl,rfl⟩
def BG (l b:Int) (w:Wd):Calls prog 120 #[.int .i64 l,.int .i64 b] w (Ae w (.bool (svB l b))):=by
 have c:svB l b=(decide (1<=l)&&(decide (l<=1000)&&(decide (9<=b)&&decide (b<=1024)))):=by
  unfold svB;simp only [ZL]
 rw [c];generalize h:decide (1<=l)=b1;generalize f:decide (l<=1000)=d;generalize j:decide (9<=b)=b3;generalize g:decide (b<=1024)=e;clear c;rcases ch (b:=b1) (ch (b:=d) (ch (b:=b3) (ch0 e))) with rfl|⟨rfl,rfl|⟨rfl,rfl|⟨rfl,rfl|rfl⟩⟩⟩
 all_goals
  go_wp2;go_ret;exact ⟨rfl,rfl⟩
def Qy {P:Program} {w:Wd} {t ty e:TypeId} {z:Value} {size d m base B c g:Nat} {A:Option Addr} {news:List Value} (E:(P.info? e).map (fun i=>(i.zero,i.size,i.bytes))=some (some z,size,d)) (l:P.underlying t=some (.slice e))
  (K:z.cells.size=size) (D:0<size) (C:d<=1000) (v:Blk w g e #[]) (p:base<=g) (q:Rd w B size A m news) (N:m<=100000):
  ∃ f w',(Builtin.append_ #[t,t] ty #[.slice (Ah g 0) 0 0,.slice A m c]).run P w=.ok f w'/\w'.ownsRow base e size f m news/\Below w.1.size w w':=by
 obtain ⟨i,r,hz,x,n⟩:=WG E;have L:=v.lt;have k:w.ownsRow base e size (.slice (Ah g 0) 0 0) 0 []:=⟨Am,.inr ⟨g,0,#[],rfl,p,v,Le _,Z0 _,Am,Am⟩⟩
 rcases WB m with rfl|y
 .have hn:news=[]:=QA (by simpa using q.1);subst hn;cases A with
  |none=>exact ⟨_,w,Fu w base t ty e i size l r _ 0 [] k c,k,Bf _ _⟩
  |some ad=>
   subst x;have h:=run_append_room_cells (P:=P) w t ty e i l r g 0 0 0 ad 0 c [] Am (fun j u h=>by simp at h) (fun u h=>by cases h) (Le _) (fun j h=>by simp at h) (fun j h=>by simp at h);exact ⟨_,w,h,k,Bf _ _⟩
 .obtain ⟨b,o,rfl,_,hc⟩:=q.2 y;have M:(0+m)*d<=100000*1000:=JW Oo C;obtain ⟨f,w',J,s,H⟩:=run_append_arg_grows (P:=P) w t ty e i z size d l r hz x n K D ⟨g,0,none⟩ 0 0 [] Am (fun j u h=>by simp at h) ⟨b,o,none⟩ m c news q.1 (fun j u G=>by rw [uK];exact hc j u G) Oo (by unfold maxLen;omega) Oo;rw [QB,YN] at s;exact ⟨f,w',J,X7 s Oo,EI H⟩
section
variable {P:Program} {ops:Array Oper} {Z:Act->Wd->Prop} {S:Wd->Prop} {i:Nat} {o:Oper} {os:List Oper} {I:List (Wi Rb)} {F:List (Nat×(Wd->Prop))} {a:Act}
def xa {s x:Operand} {t e:TypeId} {z:Value} {size b m base B c:Nat} {A:Option Addr} {v:Value} {news:List Value} {g:Value->Act} (E:(P.info? e).map (fun i=>(i.zero,i.size,i.bytes))=some (some z,size,b)) (l:P.underlying t=some (.slice e))
  (n:∀ w,(∀ q∈F,q.1∈wzD o->q.2 w)->xbQ base e 0 #[] v w) (H:∀ w,S w->(∀ q∈F,q.1∈wzD o->q.2 w)->Rd w B size A m news) (O:m<=100000)
  (G:o.op=.call { callee:=.builtin .append,args:=#[s,x],argTypes:=#[t,t] }:=by rfl) (L:a.eval s=v:=by rfl) (N:a.eval x=.slice A m c:=by rfl)
  (M:z.cells.size=size:=by rfl) (r:0<size:=by decide) (f:b<=1000:=by decide) (hw:Region.wanted o (yielded ops a.tmps)=true:=by rfl)
  (R:∀ y,a.put o.dst y=g y:=by intro x;conv=>lhs;simp only [Act.put,Sv,Sz,Sw]) (h:∀ y,WzL P ops Z S Rb (i+1) os I ((i,fun W=>W.ownsRow base e size y m news)::F) (g y)):WzL P ops Z S Rb i (o::os) (.an (fun y W=>W.ownsRow base e size y m news) (fun _ _ _ C d=>Ub d C)::I) F a:=by
 refine ⟨fun w u k=>?_,fun x=>by rw [R];exact h x⟩;rw [QK hw];intro V Q D;obtain ⟨U,j,rfl,p⟩:=n w k;obtain ⟨T,w',K,d,J⟩:=Qy (ty:=o.type) E l M r f p j (H w u k) O;unfold Oper.wp execOp;simp only [G,resolve,invoke,builtin,ZG,KL,XB,KV,WS,KN,L,N];rw [K];exact D.out _ _ ⟨J,d⟩
end
end
def Fh (n:Int):Bz:=strOfNums [n / 256,n % 256,0,0]
def Z9 (n:Int):(Fh n).size=4:=by unfold Fh;rw [WD];rfl
def Jx (n:Int) (w:Wd) (d:0<=n) (b:n<=65535):Calls prog 288 #[.int .i64 n] w (StG (Fh n) w):=by
 have c:=fun x y=>Y8 (Aa w #[.int .u8 x,.int .u8 y,.int .u8 0,.int .u8 0] 5) w.1.size 4 4 5 [x,y,0,0] (Blk.new w _ _) rfl
 unfold Fh;have a:IntKind.u8.wrap (n / 256)=n / 256:=by rw [ZX];omega
 have e:IntKind.u8.wrap (n % 256)=n % 256:=by rw [ZX];omega
 go_wp2;go_ret;exact ⟨rfl,Aj⟩
def SzG (z:Nat) (w:Wd) (x:Ending) (w':Wd):Prop:=∃ s:Bz,x=.returned (.string s)/\s.size=z/\Below w.1.size w w'
def bkZ (l:List Bz):Nat:=(l.map fun s=>4+s.size).sum
def uz (l:List Bz) (s:Bz):bkZ (l++[s])=bkZ l+(4+s.size):=by simp [bkZ]
def PY:∀ l:List Bz,4*l.length<=bkZ l
 | []=>Le _
 |s::r=>by
  have h:=PY r;have a:bkZ (s::r)=4+s.size+bkZ r:=by simp [bkZ]
  rw [QS,a];omega
def Kx (A:Option Addr) (n c:Nat) (l:List Bz) (w:Wd) (g:Sl Ug 1 w w.1.size A n c l) (hz:bkZ l<=60000):Calls prog 220 #[.slice A n c] w (SzG (4+bkZ l) w):=by
 have H:=Hd g;have C:=Hd hz;have G:=Hd g.len;have hn:n<=15000:=by have:=PY l;have:=g.len;omega
 clear g hz;go_wp2;go_loopw [3,4] (fun v i wr=>∃ (j:Nat) (q:Bz),j<=n/\i=.int .i64 j/\v=.string q/\q.size+bkZ (l.drop j)=bkZ l/\Below w.1.size w wr) (fun _ i _=>n-(intOf i).toNat)
 .exact ⟨0,_,Z0 _,rfl,rfl,QB _,Bf _ _⟩
 .obtain ⟨j,q,hj,rfl,rfl,hq,a⟩:=hrel;have r:=Hd a;have D:=Hd hq;by_cases m:j<n
  .obtain ⟨b,o,s,rfl,eM,hg,aB⟩:=Sl.cell (f:=Ug) (k:=1) (fun _=>rfl) H.o m;have u:=aB 0 _ rfl;simp only [QF,WY] at u;have z:=Hd fun (W:Wd) (h:Below w.1.size w W)=>(h.cell (p:=⟨b,o+j,none⟩) eM).trans u
   have x:l.drop j=s::l.drop (j+1):=by
    obtain ⟨F,rfl⟩:=QZ.1 hg;exact QO F
   have e:Aw (q.size+(4+s.size)+bkZ (l.drop (j+1))=bkZ l):=Hd (by rw [<-hq,x];simp [bkZ];omega);have E:q.size+s.size<=60000:=by have:=e.o;have:=C.o;omega
   have N:decide ((j:Int)<(n:Int))=true:=QQ Oo;have M:decide (j<n)=true:=QQ m;have hw:=Z9 (4+(s.size:Int));have K:IntKind.i64.wrap (4+(s.size:Int))=4+(s.size:Int):=QL _ Oo;have L:=Hd m;clear a hq hg aB u x eM hj;go_wp2;apply WzR (S:=fun W=>Below w.1.size w W) (R:=Rb) r.o.drew (fun _ _ h a=>h.trans (a.mono h.size));apply xp (.string q);apply xp (.slice (Ah b o) n c);apply xp (.int .i64 j);apply xp (Ag b (o+j));apply xl (.string s) (fun W h=>z.o W h);apply xp (.int .i64 s.size);apply xp (.int .i64 (4+(s.size:Int)));apply xc (f:=288) (v:=.string (Fh (4+(s.size:Int)))) (fun W _ _=>Jx _ W Oo Oo);apply xq (hz:=Oo);apply xp (.slice (Ah b o) n c);apply xp (.int .i64 j);apply xp (Ag b (o+j))
   apply xl (.string s) (fun W h=>z.o W h);apply xq (hz:=by rw [QY];omega);apply xp (.string ((q++Fh (4+(s.size:Int)))++s));refine xn fun W y _=>?_
   have I:=Hd y;clear y;go_wp2;go_roundw
   .exact ⟨j+1,_,L.o,Au,rfl,by have:=e.o;simp only [QY];omega,I.o⟩
   .exact At
  .obtain rfl:j=n:=Oo
   have d:q.size=bkZ l:=by have h:=D.o;rw [JC (by rw [G.o];exact Le _)] at h;simpa [bkZ] using h
   have O:q.size<=60000:=by have:=C.o;omega
   have hw:=Z9 (4+(q.size:Int));have E:¬ (9223372036854775807<(Fh (4+(q.size:Int))).size+q.size):=Oo
   have t:=Hd d;clear a hq d;go_wp2_with (go_at_call 288;refine yP (Jx _ _ Oo Oo) fun P B=>?_;have J:=Hd (r.o.trans (B.mono r.o.size));clear B);go_ret;exact ⟨_,rfl,by have:=t.o;rw [QY];omega,J.o⟩
section
variable {R:Int} {w w':Wd} {base n c:Nat} {A:Option Addr} {L:List Bz} {p:Bz->Bool} {l:List Bz} {j:Nat} {b:Int} {v:Value} {m:Nat} {M:List Bz} {W W':Wd} {o:Obj}
def RpG (R:Int) (w:Wd) (e:Ending) (w':Wd):Prop:=∃ A k c L,e=.returned (.tuple #[.slice A k c,.int .i64 R])/\(R=0->Sl Ug 1 w' w'.1.size A k c L/\k<=2000000/\∀ s∈L,s.size<=2000000)/\Below w.1.size w w'
def RpG.no (a:R=2) (d:Below w.1.size w w'):RpG R w (.returned (.tuple #[.slice none 0 0,.int .i64 2])) w':=⟨none,0,0,[],by rw [a],fun h=>Oo,d⟩
def RpG.yes (a:R=0) (d:w'.ownsRow base 9 1 (.slice A n c) n (L.map Value.string)) (hn:n<=2000000) (hz:∀ s∈L,s.size<=2000000) (e:Below w.1.size w w'):RpG R w (.returned (.tuple #[.slice A n c,.int .i64 0])) w':=by
 subst a;exact ⟨A,n,c,L,rfl,fun _=>⟨Sl.of_own (f:=Ug) (k:=1) (fun _=>rfl) Ac (by rw [Xt];exact d),hn,hz⟩,e⟩
def alN {s:Bz} (e:(if l.all p then 0 else 2)=R) (h:l[j]? =some s) (a:p s=false):R=2:=by
 rw [<-e,QX];intro d;rw [WE.1 d s (QJ h)] at a;cases a
def alY (a:(if l.all p then 0 else 2)=R) (g:l.length=n) (h:∀ t,t<n->∀ e,l[t]? =some e->p e=true):R=0:=by
 rw [<-a,QK];rw [WE];intro x f;obtain ⟨t,d,rfl⟩:=XG f;exact h t Oo _ (QV d)
structure P11 (b:Int) (j:Nat) (v:Value) (A:Option Addr) (m c:Nat) (L M:List Bz) (w W:Wd):Prop where
 o:W.ownsRow w.1.size 9 1 v L.length (L.map Value.string)
 s:Sl Ug 1 W W.1.size A m c M
 ne:∀ a,A=some a->v.ownBlock≠some a.block
 be:Below w.1.size w W
 lj:L.length<=j
 lz:∀ s∈L,s.size<=2000
 bz:((4+bkZ M:Nat):Int)<=b
def P11.next (h:P11 b j v A m c L M w W) (a:Below W.1.size W W'):P11 b j v A m c L M w W':=
 ⟨Ub h.o a,h.s.after a a.size,h.ne,h.be.trans (a.mono h.be.size),h.lj,h.lz,h.bz⟩
def xw {xs:List Value} {e:TypeId} (h:W.ownsRow base e 1 v n xs) {g:Nat} (a:W.1.size<=g):v.ownBlock≠some g:=Yy h (.inr a)
def P11.last {A':Option Addr} {e c':Nat} {d:List Bz} (h:P11 b j v A m c L M w W) (g:W.ownsRow base 9 1 (.slice A' e c') e (d.map Value.string)) (hn:∀ a,A'=some a->v.ownBlock≠some a.block) (hz:((4+bkZ d:Nat):Int)<=b):P11 b (j+1) v A' e c' L d w W:=
 ⟨h.o,Sl.of_own (f:=Ug) (k:=1) (fun _=>rfl) Ac (by rw [Xt];exact g),hn,h.be,Nat.le_succ_of_le h.lj,h.lz,hz⟩
def P11.grow (h:P11 b j v A m c L M w W) (a:(W.alloc o).grownBy W' v.ownBlock):Below w.1.size w W':=
 (h.be.alloc h.be.size o).grown a (Lx h.be.size (U6 _ _)) (U9 h.o (Le _))
def P11.push {d:Value} {x:Bz} (h:P11 b j v A m c L M w W) (e:W'.ownsRow w.1.size 9 1 d (L.length+1) (L.map Value.string++[.string x])) (f:(W.alloc o).grownBy W' v.ownBlock) (g:x.size<=2000):
  W'.ownsRow w.1.size 9 1 d (L++[x]).length ((L++[x]).map Value.string)/\Below w.1.size w W'/\(L++[x]).length<=j+1/\∀ s∈L++[x],s.size<=2000:=by
 refine ⟨by simpa using e,h.grow f,by have:=h.lj;simp;omega,fun s a=>?_⟩;rcases QC.1 a with a|a
 .exact h.lz s a
 .rw [QT.1 a];exact g
def R7 (l b:Int) (A0:Option Addr) (n c0:Nat) (X:List Bz) (w:Wd) (hs:Sl Ug 1 w w.1.size A0 n c0 X) (hn:n<=2000) (O:vvB l b=true):
  Calls prog 167 #[.int .i64 l,.int .i64 b,.slice A0 n c0] w (RpG (if X.all fun s=>decide ((s.size:Int)<=l) then 0 else 2) w):=by
 have HV:=Hd (BC l b w);rw [O] at HV;have Q:1<=l/\l<=1000/\l+8<=b/\b<=1024:=by unfold vvB at O;simp at O;omega
 obtain ⟨R,hR⟩:=yG ((if X.all fun s=>decide ((s.size:Int)<=l) then 0 else 2):Int);rw [hR];have HR:=Hd hR;have HS:=Hd hs;have HL:=Hd hs.len;have G:=Hd Q;clear O hs hR Q;go_in;go_wp2_with (go_at_call 119;refine yE HV ?_);go_loopw [8,9,10] (fun v u i wr=>∃ (j:Nat) (A:Option Addr) (m c:Nat) (L M:List Bz),j<=n/\i=.int .i64 j/\u=.slice A m c/\P11 b j v A m c L M w wr/\∀ t,t<j->∀ e,X[t]? =some e->decide ((e.size:Int)<=l)=true) (fun _ _ i _=>n-(intOf i).toNat)
 .exact ⟨0,_,0,0,[],[],Z0 _,rfl,rfl,⟨(WC (e:=9) (base:=w.1.size) (size:=1) w #[] 0 (Le _) Ac rfl).alloc _,⟨Le _,rfl,rfl,fun h=>absurd h Ac⟩,fun a F=>by injection F with F;subst F;simp [Value.ownBlock],Aj.alloc Am _,Le _,fun s h=>(by cases h),by have:=G.o;simp [bkZ];omega⟩,fun t h=>absurd h Oo⟩
 .obtain ⟨j,A,m,c,L,M,hj,rfl,rfl,hP,hall⟩:=hrel;have d:=Hd hP;have HA:=Hd hall;have hm:m<=300:=by have:=PY M;have:=hP.s.len;have:=hP.bz;have:=G.o;omega
  by_cases aE:j<n
  .obtain ⟨bb,o,s,rfl,eM,T,aB⟩:=Sl.cell (f:=Ug) (k:=1) (fun _=>rfl) HS aE;have c1:=aB 0 _ rfl;simp only [QF,WY] at c1;have HC:=Hd fun (W:Wd) (h:Below w.1.size w W)=>(h.cell (p:=⟨bb,o+j,none⟩) eM).trans c1
   have cr:=HC _ hP.be;have HG:=Hd T;have HT:=Hd aE;have d1:decide ((j:Int)<(n:Int))=true:=QQ Oo;have d2:decide (j<n)=true:=QQ aE;clear hall T aB eM c1 hj;by_cases P:(s.size:Int)<=l
   .have d3:decide (l<(s.size:Int))=false:=QW Oo;have eJ:=Hd P;have gJ:=Hd (Xk HA HG (QQ P));clear P hP;go_wp2;apply Bi 8 2 (S:=Below wr.1.size wr) (R:=Rb) (S':=fun _=>True) (Bf _ _).drew (fun _ _ h q=>h.trans (q.mono h.size));apply xd wr.1.size 9 0 #[] (fun W h=>h.size);intro v1;apply xp (.slice A m c);apply xa (A:=A) (m:=m) (c:=c) (v:=v1) V5 underlying133 (fun W U=>xf 0 U) (fun W h _=>(d.s.below h).rd) Oo;intro v2;apply xp (.slice (Ah bb o) n c0);apply xp (.int .i64 j);apply xp (Ag bb (o+j));apply xl (.string s) (fun W h=>HC W (d.be.trans (h.mono d.be.size)));apply xb 9 1 #[.string s];intro v3;refine xn fun W hS U=>?_
    obtain ⟨g,rfl,T⟩:=U _ (.head _);have iG:=U _ (.tail _ (.head _));refine ta 8 V5 underlying133 iG (ET T rfl) (Yt s) Oo hS.size (fun v4 V C E=>?_);refine tk 9 v4 trivial ?_;refine Ad Ak ?_ _;have cO:=Hd (hS.grown E hS.size (U9 iG (Le _)));obtain ⟨A4,c4,rfl,_⟩:=U4 C;have gL:V.ownsRow wr.1.size 9 1 (.slice A4 (m+1) c4) (m+1) ((M++[s]).map Value.string):=by rw [XM];rw [Xt] at C;exact C
    have fK:=Hd gL;have r:=Hd (d.next cO);have J:bkZ (M++[s])<=60000:=by have:=d.bz;have:=G.o;have:=eJ.o;rw [uz];omega
    have HBZ:=Hd J;have HN:=Hd fun W (h:Below V.1.size V W)=>Kx A4 (m+1) c4 (M++[s]) W (Sl.of_own (f:=Ug) (k:=1) (fun _=>rfl) Ac (by rw [Xt];exact Ub gL h)) J
    obtain ⟨z,hz⟩:=yG (decide (b<((4+bkZ (M++[s]):Nat):Int)));have HZ:=Hd hz;obtain ⟨Z,hZ⟩:=yG (4+bkZ (M++[s]));rw [hZ] at HN hz HZ;have HZZ:=Hd hZ;clear C E iG T U hS gL J hZ;cases z with
    |false=>
     go_wp2_with (go_at_call 220;refine (HN _ (Bf _ _)).mono ?_;rintro e w5 ⟨x,rfl,K,q⟩;have N:=Hd q;clear q;subst K);go_roundw
     .refine ⟨j+1,A4,m+1,c4,L,M++[s],HT,Au,rfl,(r.next N).last (Ub fK N) (fun a F h=>?_) (by have:=JI HZ;have:=HZZ.o;omega),gJ⟩;have h1:=U9 fK (Le _) a.block (by subst F;simp [Value.ownBlock]);exact absurd h (xw d.o.o h1)
     .exact At
    |true=>
     have D:=Hd fun W (h:Below V.1.size V W)=>Kx A m c M W (r.next h).s (by have:=d.bz;have:=G.o;omega)
     go_wp2_with (first|(go_at_call 220;refine (HN _ (Bf _ _)).mono ?_;rintro e w5 ⟨x,rfl,K,q⟩;have N:=Hd q;clear q HN;subst K)|(go_at_call 220;refine (D _ N).mono ?_;rintro e w6 ⟨y,rfl,hy,q⟩;have H:=Hd (N.trans (q.mono N.size));have HY:=Hd hy;clear q D)|(at_builtin;go_must (refine Ap V5 underlying133 ((r.next H).o.alloc _) (Blk.new _ _ _) (Yt y) (by have:=d.lj;omega) (Lx (r.next H).be.size (U6 _ _)) ?_;intro v7 w7 C E;have c7:=HC _ ((r.next H).grow E);have gM:=Hd C;have I:=Hd E;clear C E)));go_roundw
     .have B:=(r.next H).push gM I (by have:=HY.o;have:=d.bz;have:=G.o;omega);refine ⟨j+1,_,1,1,L++[y],[s],HT,Au,rfl,⟨Ub B.1 Aj,?_,fun a F h=>?_,B.2.1.alloc B.2.1.size _,B.2.2.1,B.2.2.2,by have:=eJ.o;have:=G.o;simp [bkZ];omega⟩,gJ⟩
      .exact (ET (Blk.new w7 9 #[.string s]) rfl |> fun h=>⟨Le _,rfl,h.more Am⟩)
      .injection F with F
       subst F;exact absurd h (xw B.1 (Le _))
     .exact At
   .have d3:decide (l<(s.size:Int))=true:=QQ Oo;have Y:=Hd (alN HR HG (QW P));clear P hP;go_wp2
    go_ret2
    exact RpG.no Y d.be
  .obtain rfl:j=n:=Oo
   have Y:=Hd (alY HR HL HA);have d1:decide ((j:Int)<(j:Int))=false:=QW Oo;have gY:=d.lj;clear hall hP;rcases WB m with rfl|h0
   .obtain ⟨A1,c1,O,_⟩:=U4 d.o.o;subst O;go_wp2
    go_ret2
    exact RpG.yes Y d.o.o Oo (fun x K=>by have:=d.lz x K;omega) d.be
   .have d2:decide ((0:Int)<(m:Int))=true:=QQ Oo;have d3:decide (0<m)=true:=QQ h0;have D:=Hd (Kx A m c M wr d.s (by have:=d.bz;have:=G.o;omega));clear h0;go_wp2_with (first|(go_at_call 220;refine D.mono ?_;rintro e w6 ⟨y,rfl,hy,q⟩;have H:=Hd q;have HY:=Hd hy;clear q hy)|(at_builtin;go_must (refine Ap V5 underlying133 ((d.next H).o.alloc _) (Blk.new _ _ _) (Yt y) Oo (Lx (d.next H).be.size (U6 _ _)) ?_;intro v7 w7 C E;have gM:=Hd C;have I:=Hd E;clear C E)))
    go_ret2
    have B:=(d.next H).push gM I (by have:=HY.o;have:=d.bz;have:=G.o;omega);obtain ⟨A1,c1,rfl,_⟩:=U4 B.1;exact RpG.yes Y B.1 (by have:=B.2.2.1;omega) (fun x K=>by have:=B.2.2.2 x K;omega) B.2.1
end
def tc {P:Program} {g:Region.Mode} {ops:Array Oper} {Q:Exit->Act->Wd->Prop} {S:Wd->Prop} {w:Wd} {ty:TypeId} (i b k:Nat) (v:Value) {e:Value} {f:Oper} {d:Nat} {c:Array Bool} {a:Act} {x y:Operand}
  (s:w.cell? ⟨b,k,none⟩=some e) (m:w.frozen? ⟨b,k,none⟩=false) (j:v.oneCell'=true) (r:S (w.setCell ⟨b,k,none⟩ v))
  (h:wpAnyH P g ops Q S d (c.setIfInBounds i true) (a.put f.dst undef) (w.setCell ⟨b,k,none⟩ v))
  (p:ops[i]? =some f:=by simp only [Ga,Gz,Gn];rfl)
  (n:f.op=.store ty x y:=by rfl) (o:Region.ready g ops c=[i]:=by kernel_rfl) (q:a.eval x=Ag b k:=by rfl) (hy:a.eval y=v:=by rfl)
  (hn:(P.info? ty).map (·.size)=some 1:=by kernel_rfl) (hw:Region.wanted f (yielded ops a.tmps)=true:=by rfl):wpAnyH P g ops Q S (d+1) c a w:=by
 refine Ar o Am (XX p (fun K l=>?_) An);rw [QK hw];unfold Oper.wp;rw [Uz n b k v e q hy s m j hn];exact l.out _ _ r fun _=>h
def LV {W:Wd} {base c:Nat} {A:Option Addr} {n:Nat} {L:List Bz} (h:W.ownsRow base 9 1 (.slice A n c) n (L.map Value.string)) (f:L.length=n) (hn:L≠[]):
  ∃ g M y,A=some ⟨g,0,none⟩/\base<=g/\g<W.1.size/\n<=c/\L=M++[y]/\n=M.length+1/\W.cell? ⟨g,M.length,none⟩=some (.string y)/\W.frozen? ⟨g,M.length,none⟩=false /\
   ∀ x,(W.setCell ⟨g,M.length,none⟩ (.string x)).ownsRow base 9 1 (.slice (Ah g 0) n c) n ((M++[x]).map Value.string)/\W.grownBy (W.setCell ⟨g,M.length,none⟩ (.string x)) (some g):=by
 obtain ⟨M,y,rfl⟩:∃ M y,L=M++[y]:=⟨L.dropLast,L.getLast hn,(VI hn).symm⟩
 have i:n=M.length+1:=by simp at f;omega
 obtain ⟨g,d,e,b,j,a⟩:=J7 h Oo;injection e with e1 _ e2
 subst e1 e2;refine ⟨g,M,y,rfl,b,by have:=h.lt g rfl;exact this.2,a,rfl,i,?_,h.frozenAt _,fun x=>?_⟩
 .rw [h.cellAt _ Oo];simp
 .have:=h.stored M.length (.string x);refine ⟨by simpa [List.set_append] using this.1,this.2⟩
def Dk (l b:Int) (a:fvB l b=true):∃ q:Int,1<=q/\∀ w,Calls prog 219 #[.int .i64 l,.int .i64 b] w (Ae w (.int .i64 q)):=by
 have h:1<=l/\l<=1000/\l<=b/\b<=1024:=by unfold fvB at a;simp at a;omega
 obtain ⟨f,d,g,e⟩:=h;refine ⟨b / l,(Int.le_ediv_iff_mul_le Oo).2 Oo,fun w=>?_⟩;have c:=Hd (P7 l b w);rw [a] at c;clear a;go_in;go_wp2_with (go_at_call 118;refine yE c ?_);go_ret;exact ⟨rfl,rfl⟩
def R9 (l b:Int) (A0:Option Addr) (n c0:Nat) (P:List Bz) (w:Wd) (B:Sl Ug 1 w w.1.size A0 n c0 P) (hn:n<=1100) (J:fvB l b=true):
  Calls prog 166 #[.int .i64 l,.int .i64 b,.slice A0 n c0] w (RpG (if P.all fun s=>(s.size:Int) == l then 0 else 2) w):=by
 have HV:=Hd (P7 l b w);rw [J] at HV;obtain ⟨q,hq,G⟩:=Dk l b J;have HM:=Hd G;have O:1<=l/\l<=1000:=by unfold fvB at J;simp at J;omega
 obtain ⟨R,Z⟩:=yG ((if P.all fun s=>(s.size:Int) == l then 0 else 2):Int);rw [Z];have HR:=Hd Z;have HS:=Hd B;have HL:=Hd B.len;have bQ:=Hd O;clear J B Z O G;go_in;go_wp2_with (go_at_call 118;refine yE HV.o ?_);go_loopw [8,9] (fun v i wr=>∃ (j:Nat) (L:List Bz),j<=n/\i=.int .i64 j/\wr.ownsRow w.1.size 9 1 v L.length (L.map Value.string)/\Below w.1.size w wr/\L.length<=j/\(0<j->L≠[])/\(∀ s∈L,s.size<=1000*j)/\∀ t,t<j->∀ e,P[t]? =some e->((e.size:Int) == l)=true) (fun _ i _=>n-(intOf i).toNat)
 .exact ⟨0,[],Z0 _,rfl,WC (e:=9) (base:=w.1.size) (size:=1) w #[] 0 (Le _) Ac rfl,Aj,Le _,fun h=>absurd h Ac,fun s h=>(by cases h),fun t h=>absurd h Oo⟩
 .obtain ⟨j,L,hj,rfl,m,C,gY,F,hz,hall⟩:=hrel;have H:=Hd m;have D:=Hd C;have HA:=Hd hall;have U:=Hd hz;by_cases V:j<n
  .obtain ⟨bb,o,s,rfl,eM,hg,Q⟩:=Sl.cell (f:=Ug) (k:=1) (fun _=>rfl) HS.o V;have c1:=Q 0 _ rfl;simp only [QF,WY] at c1;have HC:=Hd fun (W:Wd) (h:Below w.1.size w W)=>(h.cell (p:=⟨bb,o+j,none⟩) eM).trans c1
   have cr:=HC.o _ C;have HG:=Hd hg;have HT:=Hd V;have d1:decide ((j:Int)<(n:Int))=true:=QQ Oo;have d2:decide (j<n)=true:=QQ V;by_cases E:(s.size:Int)=l
   .have d3:((s.size:Int) != l)=false:=by simpa using E
    have dD:s.size<=1000:=by have:=bQ.o;omega
    have gJ:=Hd (Xk HA.o HG.o (show ((s.size:Int) == l)=true by simpa using E));obtain ⟨z,gT⟩:=yG ((j:Int) % q == 0);have cR:z=false->L≠[]:=fun h=>F (by rcases WB j with X|X;(subst X;subst h;simp at gT);exact X)
    have wV:=Hd cR;have d:=Hd gY;clear hall hg Q eM c1 hj E F cR hz m gY C
    go_upto_if 33 with (go_at_call 219;refine yE (HM.o _) ?_)
    go_cut [8] from 15 to 52 (fun v W=>∃ L:List Bz,W.ownsRow w.1.size 9 1 v L.length (L.map Value.string)/\Below w.1.size w W/\L.length<=j+1/\L≠[]/\∀ s∈L,s.size<=1000*j)
    case first=>
     cases z with
     |false=>
      go_wp2
      go_meet
      .exact ⟨L,H.o,D.o,by have:=d.o;omega,wV.o Am,U.o⟩
     |true=>
      go_wp2_with ((at_builtin;go_must (refine Ap V5 underlying133 (H.o.alloc _) (Blk.new _ _ _) (Yt ⟨#[]⟩) (by have:=d.o;omega) (Lx D.o.size (U6 _ _)) ?_;intro v7 w7 m aI;have gM:=Hd m;have S:=Hd aI;clear m aI)))
      go_meet
      .exact ⟨L++[⟨#[]⟩],by simpa using gM.o,(D.o.alloc D.o.size _).grown S.o (Lx D.o.size (U6 _ _)) (U9 H.o (Le _)),by have:=d.o;simp;omega,Am,fun s B=>by rcases QC.1 B with h|h;(exact U.o s h);rw [QT.1 h];exact Z0 _⟩
    case rest=>
     obtain ⟨M,m,C,I,F,hz⟩:=hcut;obtain ⟨A,c,rfl,_⟩:=U4 m;obtain ⟨g,M2,y,rfl,eQ,cE,fI,rfl,hm,Q,u,r⟩:=LV m rfl F;have hyz:y.size<=1000*j:=hz y Am;have cw:=HC.o _ C;have a:=Hd (r (y++s));have aK:=Hd C;have cN:=Hd hz;have N:=Hd I;have fJ:=Hd eQ;have h2:¬ (9223372036854775807<y.size+s.size):=Oo
     rw [hm] at a ⊢;obtain ⟨K,Y⟩:=yG M2.length;have HK:=Hd Y;have hw:IntKind.i64.wrap (K:Int)=K:=QL _ (by have:=N.o;simp at this;omega);rw [Y] at Q u a ⊢;clear m r hz I F hm Y C eQ;go_wp2
     go_region
     go_wp2;go_roundw
     .refine ⟨j+1,M2++[y++s],HT.o,Au,?_,(aK.o.grown a.o.2 aK.o.size (by rintro k ⟨⟩;exact fJ.o)).drew,?_,fun _=>Am,fun x hx=>?_,gJ.o⟩
      .have:=a.o.1.drew;simpa [HK.o] using this
      .have:=N.o;simpa using this
      .rcases QC.1 hx with h|h
       .have:=cN.o x (YJ _ h);omega
       .rw [QT.1 h,QY];omega
     .exact At
   .have d3:((s.size:Int) != l)=true:=by simpa using E
    have T:=Hd (alN HR.o HG.o (show ((s.size:Int) == l)=false by simpa using E));clear E;go_wp2
    go_ret2
    exact RpG.no T.o D.o
  .obtain rfl:j=n:=Oo
   have T:=Hd (alY HR.o HL.o HA.o);obtain ⟨A,c,rfl,_⟩:=U4 H.o;have d:=Hd gY;clear hz F hall m gY;go_wp2
   go_ret2
   exact RpG.yes T.o H.o (by have:=d.o;omega) (fun s B=>by have:=U.o s B;omega) D.o
end Go.Proofs.YtdleakjejodjjaaGreatDoor
