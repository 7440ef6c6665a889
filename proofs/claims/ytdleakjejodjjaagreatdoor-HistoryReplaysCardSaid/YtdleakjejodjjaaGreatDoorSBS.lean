/- Of the history laws. -/
import Derived.Test.YtdleakjejodjjaaGreatDoorSBQ
namespace Go.Proofs.YtdleakjejodjjaaGreatDoor
open Tryz
set_option linter.all false
set_option maxRecDepth 100000
set_option maxHeartbeats 20000000
open Go.RowKit
section
section
variable (told:Bz->Int->Option DSet) (doF:PC->Int->Chg->Int ⊕ PC)
def FG:List Com->List PC->Int ⊕ List PC
 | [],s=>.inr s
 |u::r,s=>match aft told doF u.num u.cs s with
  |.inl e=>.inl e
  |.inr s1=>FG r s1
variable {told doF}
end
end
section
section
variable (told:Bz->Int->Option DSet) (doF:PC->Int->Chg->Int ⊕ PC)
def LR:List Com->List PC->Int ⊕ List PC
 | [],s=>.inr s
 |u::r,s=>match Fe told doF u.num u.cs s with
  |.inl e=>.inl e
  |.inr s1=>LR r s1
end
end
def Nk (x:Com) (i a:Nat) (w:Wd):Calls prog 25 #[.map (some a),.int .i64 i,.agg (Ud x).toArray] w (Ab w (.bool true)):=by
 go_wp2;go_ret;exact ⟨rfl,Aj⟩
section
variable {j:Nat} {w W W':Wd} {v:Value} {now:List Cnt} {A:Option Addr} {c:Nat} {iA:Option Addr} {im ic:Nat} {ini:List Cnt} {n:Nat} {l:List Com}
noncomputable def Dw (ini:List Cnt) (l:List Com):Int ⊕ List PC:=match Zx l with
 |none=>.inl 1
 |some s=>match Jo [] (ini.map plC) with
  |none=>.inl 1
  |some t=>LR Uq doF s t
def RpR (R:Int ⊕ List PC) (w:Wd) (e:Ending) (w':Wd):Prop:=match R with
 |.inl er=>er≠0/\e=.returned (.tuple #[.slice none 0 0,.int .i64 er])/\Below w.1.size w w'
 |.inr s=>∃ v now,now.map plC=s/\e=.returned (.tuple #[v,.int .i64 0])/\RJ 12 w v now w'
def R2 (iA:Option Addr) (im ic:Nat) (ini:List Cnt) (A:Option Addr) (n c:Nat) (l:List Com) (w:Wd) (h:FP iA im ic ini A n c l w):
  Calls prog 10 #[.slice iA im ic,.slice A n c] w (RpR (Dw ini l) w):=by
 obtain ⟨R,d⟩:∃ R,Dw ini l=R:=⟨_,rfl⟩
 rw [d];have HF:=Hd h;have P:=Hd (TD A n c l w h.hs h.st (by have:=h.hn;omega));have J:=Hd fun W (hW:Below w.1.size w W)=>TM iA im ic ini W (h.hi.after hW hW.size) (fun x hx=>(h.ip x hx).below hW) (by have:=h.im;omega)
 unfold Dw at d;clear h;cases L:Zx l with
 |none=>
  rw [L] at P d;have z:Aw (R=.inl 1):=Hd d.symm;clear d;go_in;cases B:Jo [] (ini.map plC)
  all_goals
   rw [B] at J;go_wp2_with (first|(go_at_call 21;refine P.mono ?_;intro e U r;obtain ⟨rfl,F⟩:=r.resolve_right (by rintro ⟨_,h,_⟩;cases h) |>.2;have p:=Hd F;clear r F)|(go_at_call 22;refine (J _ p).mono ?_;intro e w2 r;first|(obtain ⟨rfl,g⟩:=r;have G:=Hd (p.trans (g.mono p.size));clear g)|(obtain ⟨v,now,_,rfl,_,g⟩:=r;have G:=Hd (p.trans (g.mono p.size));clear g)))
   go_ret2
   rw [z.o];exact ⟨Ac,rfl,G⟩
 |some s=>
  have E:=Hd (HF.com L);rw [L] at P d;simp only at d;cases B:Jo [] (ini.map plC) with
  |none=>
   rw [B] at J d;have z:Aw (R=.inl 1):=Hd d.symm;clear d L B;go_in;go_wp2_with (first|(go_at_call 21;refine P.mono ?_;intro e U r;obtain ⟨s',_,A',c',rfl,_,F⟩:=r.resolve_left (by rintro ⟨h,_⟩;cases h);have p:=Hd F;clear r F)|(go_at_call 22;refine (J _ p).mono ?_;rintro e w2 ⟨rfl,g⟩;have G:=Hd (p.trans (g.mono p.size));clear g))
   go_ret2
   rw [z.o];exact ⟨Ac,rfl,G⟩
  |some t=>
   rw [B] at J d;have z:Aw (LR Uq doF s t=R):=Hd d;have bT:=Hd B;clear d L B;go_in;go_wp2_with (first|(go_at_call 21;refine P.mono ?_;intro e U r;obtain ⟨s',H,A',c',rfl,cL,F⟩:=r.resolve_left (by rintro ⟨h,_⟩;cases h);injection H with H;subst H;have p:=Hd F;have Q:=Hd cL;clear r F cL)|(go_at_call 22;refine (J _ p).mono ?_;rintro e w2 ⟨v,now,q,rfl,M,g⟩;have G:=Hd g;have gK:=Hd q;have a:=Hd (HF.beg bT q p M g);clear g q M));go_loopw [8,10] (fun v i wr=>∃ (j:Nat) (now:List Cnt),j<=s.length/\i=.int .i64 j/\RJ j w v now wr/\LR Uq doF (s.drop j) (now.map plC)=R/\Below U.1.size U wr) (fun _ i _=>s.length-(intOf i).toNat)
   .exact ⟨0,now,Z0 _,rfl,a,by rw [gK.o];exact z,G⟩
   .clear gK a z bT G;obtain ⟨j,now,hj,rfl,D,y,Z⟩:=hrel;have a:=Hd D;have I:=Hd Z;obtain ⟨A4,c4,rfl,_⟩:=U4 D.nw.own;obtain ⟨m,hm⟩:∃ m,now.length=m:=⟨_,rfl⟩
    rw [hm] at a ⊢;by_cases O:j<s.length
    .obtain ⟨b,o,u,hAc,B,hg,aB⟩:=Sl.cell (f:=Ud) (k:=4) Vo (Q.after I I.size).1 O;subst hAc;have S:Aw (wr.rangeAt b (o+j*4) (Ud u)):=Hd fun i v hv=>aB i v hv
     have hu:=QJ hg;obtain ⟨f1,f2,f3⟩:=E.o.2 u hu;have C:=Hd (a.aft (by have:=E.1;omega) ((Q.after I I.size).2 u hu) f1 f2 f3);have hd:s.drop j=u::s.drop (j+1):=by rw [QO (QZ.1 hg).1,(QZ.1 hg).2]
     rw [hd] at y;unfold LR at y;have d1:decide ((j:Int)<(s.length:Int))=true:=QQ Oo;have d2:decide (j<s.length)=true:=QQ O;have HT:=Hd O;have hw:IntKind.i64.wrap ((j:Int)+1)=(j:Int)+1:=QL _ (by have:=E.1;omega);clear B hg aB hu hd D hj O Z f1 f2 f3 hm;cases V:Fe Uq doF u.num u.cs (now.map plC) with
     |inl er=>
      rw [V] at y C;have z:Aw (R=.inl er):=Hd y.symm;clear y V;go_wp2_with (first|((with_reducible refine Gl 42 39 ?_);refine Ln 42 b (o+j*4) (Ud u) S underlying42 ?_)|(go_at_call 24;refine C.mono ?_;intro e w3 T;obtain ⟨er',he,Y,rfl,N⟩:=T.resolve_right (by rintro ⟨_,_,h,_⟩;cases h);injection he with he;subst he;have wV:=Hd Y;have e9:(er != 0)=true:=(by simpa using Y);have X:=Hd (U0 a.be N a.be.size);clear T N Y))
      go_ret2
      rw [z.o];exact ⟨wV,rfl,X⟩
     |inr s1=>
      rw [V] at y C;have cC:=Hd y;clear y V;go_wp2_with (first|((with_reducible refine Gl 42 39 ?_);refine Ln 42 b (o+j*4) (Ud u) S underlying42 ?_)|(go_at_call 24;refine C.mono ?_;intro e w3 T;obtain ⟨v2,K,he,rfl,dU,N⟩:=T.resolve_left (by rintro ⟨_,h,_⟩;cases h);injection he with he;subst he;have bZ:=Hd dU;have X:=Hd N;clear T dU N));go_roundw
      .exact ⟨j+1,K,HT,Au,bZ,cC,I.trans (X.mono I.size)⟩
      .simp [intOf];have:=HT.o;omega
    .obtain rfl:j=s.length:=Oo
     have z:Aw (R=.inr (now.map plC)):=Hd (by rw [<-y,WP (Le _)];rfl);clear y hj O Z D;go_wp2_with fail
     go_ret2
     rw [z.o];exact ⟨_,now,rfl,rfl,a.more E.1⟩
end
end Go.Proofs.YtdleakjejodjjaaGreatDoor
