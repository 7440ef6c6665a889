/- Part of the proof of HistoryReads. -/
import Derived.Test.YtapanepkfbamhaaGreatDoorJBB
namespace Go.Proofs.YtapanepkfbamhaaGreatDoor
open Tryz (prog)
section
set_option maxRecDepth 100000
set_option maxHeartbeats 4000000
open Go.RowKit
theorem groupOf_any (s:ByteArray) (w:World) (hs:s.size≤1000) (hm:Mx w):Calls prog 153 #[.string s] w fun x w'=>x = .returned (.tuple #[.string (Ze s).1,.bool (Ze s).2.2])∧Below w.heap.size w w':=by
 have HS:=Hd (split_any s w (by omega) hm);clear hs hm;go_enter Tryz.func153,Tryz.ntmps153;go_wp2_with (go_at_call 199;refine HS.out.mono ?_;rintro x w2 ⟨rfl,hb⟩;have HB:=Hd hb;clear hb);refine Br (results_tmp2 Tryz.results153 _ _ _) rfl ?_;exact ⟨rfl,HB.out⟩
noncomputable def Xd (e g:En):Option ByteArray:=
 if e.kind=0 then (match Jf e with
  |none=>none
  |some a=>if (Ze e.name).2.2=true then (if g.kind=1∧g.name=(Ze e.name).1 then (match Jf g with|none=>none|some b=>some (⟨#[]⟩++Yv a++Yv b)) else none)
   else if g=enZ then some (⟨#[]⟩++Yv a++Yv ⟨#[]⟩) else none)
 else none
theorem ew_zero (S:List Nat) (W:World):EW S W enZ enN:=⟨Sl.nil,Sl.nil,fun p hp _=>(by cases hp),fun p hp _=>(by cases hp)⟩
structure NB (e g:En) (a b:EnA) (w W:World):Prop where
 b1:Blk W w.heap.size 159 (enC e a).toArray
 b2:Blk W (w.heap.size+1) 159 (enC g b).toArray
 be:Below w.heap.size w W
 sz:w.heap.size+2≤W.heap.size
theorem NB.next {e g:En} {a b:EnA} {w W W':World} (h:NB e g a b w W) (hb:Below W.heap.size W W'):NB e g a b w W':=
 have hz:=h.sz
 ⟨h.b1.below hb h.b1.lt,h.b2.below hb h.b2.lt,U0 h.be hb (by omega),Lx h.sz hb.size⟩
theorem NB.new (e g:En) (a b:EnA) (w:World):NB e g a b w ((w.alloc (.cells (enC e a).toArray 159)).alloc (.cells (enC g b).toArray 159)):=
 ⟨(Blk.new w _ _).alloc _,U3 (w.alloc _) _ _ _ (by simp),((Bf _ _).alloc (Le _) _).alloc (by simp) _,by simp⟩
theorem encG_form {e:En} {o:Option ByteArray} (hp:encP e o) (hz:∀ s,o=some s→s.size≤200000):∃ (s:ByteArray) (c:Int),encV o = .tuple #[.string s,.int .i64 c]∧s.size≤200000∧(e.kind=0∨e.kind=1→((c != 0)=true→Jf e=none)∧((c != 0)=false→Jf e=some s)):=by
 cases o with
 |none=>exact ⟨⟨#[]⟩,1,rfl,Z0 _,fun hk=>⟨fun _=>(hp hk).symm,fun h=>by simp at h⟩⟩
 |some s=>exact ⟨s,0,rfl,hz s rfl,fun hk=>⟨fun h=>by simp at h,fun _=>(hp hk).symm⟩⟩
theorem noteF_1 {e g:En} (h:e.kind=0→Jf e=none):Xd e g=none:=by
 unfold Xd;split
 ·rename_i hk
  rw [h hk]
 ·rfl
theorem noteF_2 {e g:En} {a:ByteArray} (hk:e.kind=0) (ha:Jf e=some a) (hs:(Ze e.name).2.2=true) (h:g.kind=1→g.name=(Ze e.name).1→Jf g=none):Xd e g=none:=by
 unfold Xd;rw [if_pos hk,ha];simp only [hs,if_true];split
 ·rename_i h2
  rw [h h2.1 h2.2]
 ·rfl
theorem noteF_3 {e g:En} {a b:ByteArray} (hk:e.kind=0) (ha:Jf e=some a) (hs:(Ze e.name).2.2=true) (h1:g.kind=1) (h2:g.name=(Ze e.name).1) (hb:Jf g=some b):Xd e g=some (⟨#[]⟩++Yv a++Yv b):=by
 unfold Xd;rw [if_pos hk,ha];simp only [hs,if_true];rw [if_pos ⟨h1,h2⟩,hb]
theorem noteF_4 {e g:En} {a:ByteArray} (hk:e.kind=0) (ha:Jf e=some a) (hs:(Ze e.name).2.2=false) (h:¬ g=enZ):Xd e g=none:=by
 unfold Xd;rw [if_pos hk,ha];simp only [hs,Bool.false_eq_true,if_false];rw [if_neg h]
theorem noteF_5 {e g:En} {a:ByteArray} (hk:e.kind=0) (ha:Jf e=some a) (hs:(Ze e.name).2.2=false) (h:g=enZ):Xd e g=some (⟨#[]⟩++Yv a++Yv ⟨#[]⟩):=by
 unfold Xd;rw [if_pos hk,ha];simp only [hs,Bool.false_eq_true,if_false];rw [if_pos h]
def NoteG (e g:En) (w:World) (x:Ending) (w':World):Prop:=x = .returned (encV (Xd e g))∧Below w.heap.size w w'
theorem NoteG.none {e g:En} {w w':World} (h:Xd e g=none) (hb:Below w.heap.size w w'):NoteG e g w (.returned (.tuple #[.string ⟨#[]⟩,.int .i64 1])) w':=⟨by rw [h];rfl,hb⟩
theorem NoteG.some {e g:En} {w w':World} {s:ByteArray} (h:Xd e g=some s) (hb:Below w.heap.size w w'):NoteG e g w (.returned (.tuple #[.string s,.int .i64 0])) w':=⟨by rw [h];rfl,hb⟩
theorem encT_le (s:ByteArray) (h:s.size≤200000):(⟨#[]⟩++Yv s).size≤1000000000:=by
 have h0:(⟨#[]⟩:ByteArray).size=0:=rfl;have:=Xi s;rw [ByteArray.size_append];omega
theorem note_any (e g:En) (a b:EnA) (w:World) (he:EW [] w e a) (hg:EW [] w g b) (se:Sm e) (sg:Sm g) (e0:0≤e.kind) (e4:e.kind≤4) (g0:0≤g.kind) (g4:g.kind≤4) (ht:Sta w):
  Calls prog 126 #[.agg (enC e a).toArray,.agg (enC g b).toArray] w (NoteG e g w):=by
 have HN1:=Hd (NB.new e g a b w);have HT:=Hd ht;have HE:=Hd fun W (h:NB e g a b w W)=>Jg e a W (he.below h.be) se e0 e4 (ht.after h.be)
 have HG:=Hd fun W (h:NB e g a b w W)=>Jg g b W (hg.below h.be) sg g0 g4 (ht.after h.be)
 have HO:=Hd fun W (h:NB e g a b w W)=>groupOf_any e.name W se.nm (ht.after h.be).mx
 have HSM:=Hd fun W (h:NB e g a b w W)=>same_any g enZ b enN W (hg.below h.be) (ew_zero _ _) (by have:=sg.la;omega) (by decide) (by have:=sg.lg;omega) (by decide)
 clear he hg se sg e0 e4 g0 g4 ht;go_enter Tryz.func126,Tryz.ntmps126
 go_wp2_with (first|((with_reducible refine Gl 159 2 ?_);refine Lr rfl 159 _ rfl (w.heap.size) rfl 159 ((enC e a).toArray) (0,0) _ (by first|exact HN5.out.b1|exact HN4.out.b1|exact HN3.out.b1|exact HN2.out.b1|exact HN1.out.b1) Tryz.underlying159 rfl (by kernel_rfl) ?_)|((with_reducible refine Gl 159 3 ?_);refine Lr rfl 159 _ rfl (w.heap.size+1) rfl 159 ((enC g b).toArray) (0,0) _ (by first|exact HN5.out.b2|exact HN4.out.b2|exact HN3.out.b2|exact HN2.out.b2|exact HN1.out.b2) Tryz.underlying159 rfl (by kernel_rfl) ?_)|((with_reducible refine Gb 159 ?_);refine U2 (by kernel_rfl) 159 _ rfl ((enC enZ enN).toArray) (by kernel_rfl) ?_)|((with_reducible show Calls _ _ #[.agg (enC e a).toArray] _ _);refine (HE.out _ HN1.out).mono ?_;rintro x w2 ⟨⟨o,hp,hz,rfl⟩,hb⟩;obtain ⟨es,ec,hev,hez,hek⟩:=encG_form hp hz;rw [hev];have HN2:=Hd (HN1.out.next hb);have HEZ:=Hd hez;have HEK:=Hd hek;have c0:=(HN2.out.b1.cell 0).trans (show _=some (Value.int .i64 e.kind) from rfl);have c1:=(HN2.out.b1.cell 1).trans (show _=some (Value.string e.name) from rfl);clear hp hz hev hez hek hb;rcases (show (ec != 0)=true∨((ec != 0)=false∧(e.kind != 0)=true)∨((ec != 0)=false∧(e.kind != 0)=false) by cases (ec != 0)<;>cases (e.kind != 0)<;>simp) with b1|⟨b1,b2⟩|⟨b1,b2⟩)|(go_at_call 153;refine (HO.out _ HN2.out).mono ?_;rintro x w3 ⟨rfl,hb⟩;have HN3:=Hd (HN2.out.next hb);clear hb c0 c1;rcases (show (Ze e.name).2.2=true∨(Ze e.name).2.2=false by cases (Ze e.name).2.2<;>simp) with s1|s1)|((with_reducible show Calls _ _ #[.agg (enC g b).toArray] _ _);refine (HG.out _ HN3.out).mono ?_;rintro x w4 ⟨⟨o,hp,hz,rfl⟩,hb⟩;obtain ⟨gs,gc,hev,hgz,hgk⟩:=encG_form hp hz;rw [hev];have HN4:=Hd (HN3.out.next hb);have HGZ:=Hd hgz;have HGK:=Hd hgk;have d0:=(HN4.out.b2.cell 0).trans (show _=some (Value.int .i64 g.kind) from rfl);have d1:=(HN4.out.b2.cell 1).trans (show _=some (Value.string g.name) from rfl);clear hp hz hev hgz hgk hb;rcases (show (gc != 0)=true∨((gc != 0)=false∧(g.kind != 1)=true)∨((gc != 0)=false∧(g.kind != 1)=false∧(g.name.toList == (Ze e.name).1.toList)=false)∨((gc != 0)=false∧(g.kind != 1)=false∧(g.name.toList == (Ze e.name).1.toList)=true) by cases (gc != 0)<;>cases (g.kind != 1)<;>cases (g.name.toList == (Ze e.name).1.toList)<;>simp) with r1|⟨r1,r2⟩|⟨r1,r2,r3⟩|⟨r1,r2,r3⟩)|(go_at_call 154;refine (HSM.out _ HN3.out).mono ?_;rintro x w4 ⟨⟨z,rfl,hz⟩,hb⟩;have HN4:=Hd (HN3.out.next hb);have HZ:=Hd hz;clear hb hz;cases z)|((with_reducible show Calls _ _ #[.string ⟨#[]⟩,.string _] _ _);refine (If ⟨#[]⟩ es _ (by decide) (by have:=HEZ.out;omega)).mono ?_;rintro x w5 ⟨rfl,hb⟩;have HN5:=Hd (HN4.out.next hb);clear hb)|(go_at_call 155;refine (If _ _ _ (encT_le es HEZ.out) (by first|decide|(have:=HGZ.out;omega))).mono ?_;rintro x w6 ⟨rfl,hb⟩;have HN6:=Hd (HN5.out.next hb);clear hb))
 ·refine Br (results_tmp2 Tryz.results126 _ _ _) rfl (NoteG.none (noteF_1 fun hk=>(HEK.out (.inl hk)).1 b1) HN2.out.be)
 ·refine Br (results_tmp2 Tryz.results126 _ _ _) rfl (NoteG.none (noteF_1 fun hk=>by rw [hk] at b2;cases b2) HN2.out.be)
 ·have hk:e.kind=0:=by simpa using b2
  have ha:=(HEK.out (.inl hk)).2 b1;refine Br (results_tmp2 Tryz.results126 _ _ _) rfl (NoteG.none (noteF_2 hk ha s1 fun hg _=>(HGK.out (.inr hg)).1 r1) HN4.out.be)
 ·have hk:e.kind=0:=by simpa using b2
  have ha:=(HEK.out (.inl hk)).2 b1;refine Br (results_tmp2 Tryz.results126 _ _ _) rfl (NoteG.none (noteF_2 hk ha s1 fun hg _=>absurd hg (by simpa using r2)) HN4.out.be)
 ·have hk:e.kind=0:=by simpa using b2
  have ha:=(HEK.out (.inl hk)).2 b1;refine Br (results_tmp2 Tryz.results126 _ _ _) rfl (NoteG.none (noteF_2 hk ha s1 fun _ hn=>by rw [hn] at r3;simp at r3) HN4.out.be)
 ·have hk:e.kind=0:=by simpa using b2
  have ha:=(HEK.out (.inl hk)).2 b1;have h1:g.kind=1:=by simpa using r2
  have h2:g.name=(Ze e.name).1:=by rw [str_beq] at r3;simpa using r3
  refine Br (results_tmp2 Tryz.results126 _ _ _) rfl (NoteG.some (noteF_3 hk ha s1 h1 h2 ((HGK.out (.inr h1)).2 r1)) HN6.out.be)
 ·have hk:e.kind=0:=by simpa using b2
  have ha:=(HEK.out (.inl hk)).2 b1;refine Br (results_tmp2 Tryz.results126 _ _ _) rfl (NoteG.none (noteF_4 hk ha s1 fun h=>by have:=HZ.out.2 h;cases this) HN4.out.be)
 ·have hk:e.kind=0:=by simpa using b2
  have ha:=(HEK.out (.inl hk)).2 b1;refine Br (results_tmp2 Tryz.results126 _ _ _) rfl (NoteG.some (noteF_5 hk ha s1 (HZ.out.1 (by trivial))) HN6.out.be)
end
section
set_option maxRecDepth 100000
set_option maxHeartbeats 4000000
open Go.RowKit
noncomputable def Jh (s:ByteArray):Option En:=if s.size<32∨200<s.size then none else if E9 s=68 then deF 0 s else if E9 s=71 then deF 1 s else none
noncomputable def Xb (note:ByteArray):Option En:=
 let t1:=Uh note 0 200;let t2:=Uh t1.2.1 t1.2.2 200
 if Zw t2.2.1 t2.2.2=0 then (match Jh t1.1 with
  |none=>none
  |some e=>match (if t2.1.toList = [] then some enZ else Jh t2.1) with
   |none=>none
   |some g=>if Xd e g=some note then some e else none)
 else none
def Dq (s:ByteArray) (e:En) (c:Int):Prop:=((c == 0)=false∧Jh s=none)∨((c == 0)=true∧(Jh s=some e∨(Jh s=none∧2≤e.kind)))
theorem Fy:Sm enZ:=⟨by decide,by decide,by decide,by decide,by decide,by decide,by decide,fun n h=>(by cases h),fun n h=>(by cases h),by decide⟩
theorem dec_form {n:Nat} {s:ByteArray} {o:Option En} {a:EnA} {W:World} (hp:decP s o) (h:∀ e,o=some e→Sm e∧0≤e.kind∧e.kind≤4∧EWn n W e a):∃ (e:En) (b:EnA) (c:Int),decV o a = .tuple #[.agg (enC e b).toArray,.int .i64 c]∧Dq s e c∧Sm e∧0≤e.kind∧e.kind≤4∧EWn n W e b:=by
 cases o with
 |none=>
  refine ⟨enZ,enN,11,rfl,.inl ⟨rfl,?_⟩,Fy,by decide,by decide,⟨Sl.nil,Sl.nil,fun p hp _=>(by cases hp),fun p hp _=>(by cases hp)⟩⟩;unfold decP at hp;unfold Jh;split
  ·rfl
  ·rename_i hz
   rw [if_neg hz] at hp;split
   ·rename_i h1;exact (hp.1 h1).symm
   ·split
    ·rename_i h1;exact (hp.2.1 h1).symm
    ·rfl
 |some e=>
  obtain ⟨h1,h2,h3,h4⟩:=h e rfl;refine ⟨e,a,0,rfl,.inr ⟨rfl,?_⟩,h1,h2,h3,h4⟩;unfold decP at hp;unfold Jh;split
  ·rename_i hz;rw [if_pos hz] at hp;cases hp
  ·rename_i hz
   rw [if_neg hz] at hp;split
   ·rename_i h1;exact .inl (hp.1 h1).symm
   ·split
    ·rename_i h1;exact .inl (hp.2.1 h1).symm
    ·rename_i k1 k2;exact .inr ⟨rfl,hp.2.2 k1 k2 e rfl⟩
theorem encV_any (o:Option ByteArray):∃ (s:ByteArray) (c:Int),encV o = .tuple #[.string s,.int .i64 c]∧(((c == 0)=false∧o=none)∨((c == 0)=true∧o=some s)):=by
 cases o with
 |none=>exact ⟨⟨#[]⟩,1,rfl,.inl ⟨rfl,rfl⟩⟩
 |some t=>exact ⟨t,0,rfl,.inr ⟨rfl,rfl⟩⟩
section
variable {note:ByteArray}
theorem parse_end (h:(Zw (Uh (Uh note 0 200).2.1 (Uh note 0 200).2.2 200).2.1 (Uh (Uh note 0 200).2.1 (Uh note 0 200).2.2 200).2.2 == 0)=false):Xb note=none:=by
 unfold Xb;dsimp only;rw [if_neg (by simpa using h)]
theorem Ja (h:Jh (Uh note 0 200).1=none):Xb note=none:=by
 unfold Xb;dsimp only;rw [h];split<;>rfl
theorem noteF_kind {e g:En} (h:2≤e.kind):Xd e g=none:=by
 unfold Xd;rw [if_neg (by omega)]
theorem noteF_group {e g:En} (h:2≤g.kind):Xd e g=none:=by
 have h1:¬ g.kind=1:=by omega
 have h2:¬ g=enZ:=fun h3=>by rw [h3] at h;exact absurd h (by decide)
 unfold Xd;split
 ·split
  ·rfl
  ·split
   ·rw [if_neg (fun h=>h1 h.1)]
   ·rfl
 ·rfl
theorem parse_cd {e:En} {c:Int} (hd:Dq (Uh note 0 200).1 e c) (hc:(c == 0)=false):Xb note=none:=by
 rcases hd with ⟨_,h2⟩|⟨h1,_⟩
 ·exact Ja h2
 ·rw [hc] at h1;cases h1
def Gq (s:ByteArray) (g:En):Prop:=((s.toList == [])=true∧g=enZ)∨((s.toList == [])=false∧(Jh s=some g∨(Jh s=none∧2≤g.kind)))
theorem Fh (h2:¬ (Uh (Uh note 0 200).2.1 (Uh note 0 200).2.2 200).1.toList = []) (h3:Jh (Uh (Uh note 0 200).2.1 (Uh note 0 200).2.2 200).1=none):Xb note=none:=by
 unfold Xb;dsimp only;split
 ·split
  ·rfl
  ·rw [h3]
 ·rfl
theorem parse_c2 {g:En} {c:Int} (h2:((Uh (Uh note 0 200).2.1 (Uh note 0 200).2.2 200).1.toList == [])=false) (hd:Dq (Uh (Uh note 0 200).2.1 (Uh note 0 200).2.2 200).1 g c) (hc:(c == 0)=false):Xb note=none:=by
 rcases hd with ⟨_,h3⟩|⟨h1,_⟩
 ·exact Fh (fun h=>by rw [h] at h2;cases h2) h3
 ·rw [hc] at h1;cases h1
theorem Gq.of {s:ByteArray} {g:En} {c:Int} (h2:(s.toList == [])=false) (hd:Dq s g c) (hc:(c == 0)=true):Gq s g:=by
 rcases hd with ⟨h1,_⟩|⟨_,h3⟩
 ·rw [hc] at h1;cases h1
 ·exact .inr ⟨h2,h3⟩
theorem parse_last {e g:En} (he:Jh (Uh note 0 200).1=some e) (h0:(Zw (Uh (Uh note 0 200).2.1 (Uh note 0 200).2.2 200).2.1 (Uh (Uh note 0 200).2.1 (Uh note 0 200).2.2 200).2.2 == 0)=true) (hg:(if (Uh (Uh note 0 200).2.1 (Uh note 0 200).2.2 200).1.toList = [] then some enZ else Jh (Uh (Uh note 0 200).2.1 (Uh note 0 200).2.2 200).1)=some g):Xb note=if Xd e g=some note then some e else none:=by
 unfold Xb;dsimp only;rw [if_pos (by simpa using h0),he];simp only [hg]
theorem gq_some {s:ByteArray} {g:En} (h:Gq s g):(if s.toList = [] then some enZ else Jh s)=some g∨(¬ s.toList = []∧Jh s=none∧2≤g.kind):=by
 rcases h with ⟨h1,rfl⟩|⟨h1,h2|h2⟩
 ·exact .inl (if_pos (by simpa using h1))
 ·exact .inl ((if_neg (fun h=>by rw [h] at h1;cases h1)).trans h2)
 ·exact .inr ⟨(fun h=>by rw [h] at h1;cases h1),h2⟩
theorem parse_bad {e g:En} {c:Int} (hd:Dq (Uh note 0 200).1 e c) (hg:Gq (Uh (Uh note 0 200).2.1 (Uh note 0 200).2.2 200).1 g) (hn:¬ Xd e g=some note):Xb note=none:=by
 rcases hd with ⟨h1,h2⟩|⟨h1,h2|⟨h2,h3⟩⟩
 ·exact Ja h2
 ·rcases gq_some hg with h4|⟨h4,h5,_⟩
  ·cases h0:(Zw (Uh (Uh note 0 200).2.1 (Uh note 0 200).2.2 200).2.1 (Uh (Uh note 0 200).2.1 (Uh note 0 200).2.2 200).2.2 == 0) with
   |false=>exact parse_end h0
   |true=>rw [parse_last h2 h0 h4,if_neg hn]
  ·exact Fh h4 h5
 ·exact Ja h2
theorem parse_good {e g:En} {c:Int} (hd:Dq (Uh note 0 200).1 e c) (hc:(c == 0)=true) (h0:(Zw (Uh (Uh note 0 200).2.1 (Uh note 0 200).2.2 200).2.1 (Uh (Uh note 0 200).2.1 (Uh note 0 200).2.2 200).2.2 == 0)=true) (hg:Gq (Uh (Uh note 0 200).2.1 (Uh note 0 200).2.2 200).1 g) (hn:Xd e g=some note):Xb note=some e:=by
 rcases hd with ⟨h1,_⟩|⟨h1,h2|⟨h2,h3⟩⟩
 ·rw [hc] at h1;cases h1
 ·rcases gq_some hg with h4|⟨_,_,h5⟩
  ·rw [parse_last h2 h0 h4,if_pos hn]
  ·rw [noteF_group h5] at hn;cases hn
 ·rw [noteF_kind h3] at hn;cases hn
end
theorem nn_of {o:Option ByteArray} {ec:Int} {es note:ByteArray} (h:((ec == 0)=false∧o=none)∨((ec == 0)=true∧o=some es)) (hb:(ec == 0)=false∨(es.toList == note.toList)=false):¬ o=some note:=by
 rcases h with ⟨_,h⟩|⟨h1,h⟩
 ·rw [h];simp
 ·rw [h]
  intro h2;injection h2 with h2
  rcases hb with hb|hb
  ·rw [h1] at hb;cases hb
  ·rw [h2] at hb;simp at hb
theorem ny_of {o:Option ByteArray} {ec:Int} {es note:ByteArray} (h:((ec == 0)=false∧o=none)∨((ec == 0)=true∧o=some es)) (h1:(ec == 0)=true) (h2:(es.toList == note.toList)=true):o=some note:=by
 rcases h with ⟨h3,_⟩|⟨_,h⟩
 ·rw [h1] at h3;cases h3
 ·rw [h]
  rw [str_beq] at h2;simpa using h2
def ParG (note:ByteArray) (w:World) (x:Ending) (w':World):Prop:=(match Xb note with
 |none=>x = .returned (.tuple #[.agg (enC enZ enN).toArray,.agg (enC enZ enN).toArray,.int .i64 11])
 |some e => ∃ (a:EnA) (g:En) (b:EnA),x = .returned (.tuple #[.agg (enC e a).toArray,.agg (enC g b).toArray,.int .i64 0]))∧Below w.heap.size w w'
theorem ParG.none {note:ByteArray} {w w':World} (h:Xb note=none) (hb:Below w.heap.size w w'):ParG note w (.returned (.tuple #[.agg (enC enZ enN).toArray,.agg (enC enZ enN).toArray,.int .i64 11])) w':=⟨by rw [h],hb⟩
theorem ParG.some {note:ByteArray} {w w':World} {e g:En} {a b:EnA} (h:Xb note=some e) (hb:Below w.heap.size w w'):ParG note w (.returned (.tuple #[.agg (enC e a).toArray,.agg (enC g b).toArray,.int .i64 0])) w':=⟨by rw [h];exact ⟨a,g,b,rfl⟩,hb⟩
structure PB (w W:World):Prop where
 b1:Blk W w.heap.size 159 (enC enZ enN).toArray
 b2:Blk W (w.heap.size+1) 159 (enC enZ enN).toArray
 be:Below w.heap.size w W
 sz:w.heap.size+3≤W.heap.size
theorem PB.far {w W W':World} {S:List Nat} (h:PB w W) (hf:Far S W W') (hS:∀ k∈S,w.heap.size+2≤k):PB w W':=
 have hz:=h.sz;have ne:∀ k,k<w.heap.size+2→k ∉ S:=fun k hk hm=>by have:=hS k hm;omega
 ⟨h.b1.far' hf (ne _ (by omega)),h.b2.far' hf (ne _ (by omega)),h.be.trans (hf.below (fun k hk=>by have:=hS k hk;omega) h.be.size),Lx h.sz hf.size⟩
theorem PB.next {w W W':World} (h:PB w W) (hb:Below W.heap.size W W'):PB w W':=h.far (S:=[]) (Far.of_below hb) (by simp)
theorem Ut {P:Program} {fn:Func} {tmps:Array Value} {p p2 q:Nat} {t t2:TypeId} {b b2:Nat} {c c2 v:Value} {W:World} (h:fn.results=#[.cell p t,.cell p2 t2,.tmp q]) (hp:tmps.getD p undef = .pointer (some ⟨b,0,none⟩)) (hp2:tmps.getD p2 undef = .pointer (some ⟨b2,0,none⟩)) (hq:tmps.getD q undef=v)
  (hl:(loadVar t ⟨b,0,none⟩).run P W = .ok c W) (hl2:(loadVar t2 ⟨b2,0,none⟩).run P W = .ok c2 W):(results fn tmps).run P W = .ok (.tuple #[c,c2,v]) W:=by
 have hp':tmps[p]?.getD undef = .pointer (some ⟨b,0,none⟩):=by simpa using hp
 have hp2':tmps[p2]?.getD undef = .pointer (some ⟨b2,0,none⟩):=by simpa using hp2
 have hq':tmps[q]?.getD undef=v:=by simpa using hq
 simp [results,h,hp',hp2',hq',asAddr,hl,hl2]
theorem Ur {W:World} {g1 g2:Nat} {c1 c2 d1 d2:Array Value} (h1:Blk W g1 159 d1) (h2:Blk W g2 159 d2) (hn:g1≠g2) (z1:c1.size=33) (z2:c2.size=33):
  (loadVar 159 ⟨g1,0,none⟩).run prog ((W.setRow g1 c1).setRow g2 c2) = .ok (.agg c1) ((W.setRow g1 c1).setRow g2 c2)∧(loadVar 159 ⟨g2,0,none⟩).run prog ((W.setRow g1 c1).setRow g2 c2) = .ok (.agg c2) ((W.setRow g1 c1).setRow g2 c2):=
 ⟨Ya _ g1 c1 (Ul (setRow_heap _ _ _ _ _ _ h1) hn) z1,Ya _ g2 c2 (setRow_heap _ _ _ _ _ _ (Ul h2 (Ne.symm hn))) z2⟩
theorem PB.end' {w W:World} (h:PB w W) (c1 c2:Array Value):Below w.heap.size w ((W.setRow w.heap.size c1).setRow (w.heap.size+1) c2):=U6 (U6 h.be (Le _) _) (by omega) _
theorem parse_any (note:ByteArray) (w:World) (hs:note.size≤9223372036854775807) (hsm:note.size≤maxLen) (ht:Sta w):Calls prog 87 #[.string note] w (ParG note w):=by
 have HT:=Hd ht;have hz1:=(Yw note 0 200).2;have hl1:=Za note 0;have hl2:=Za (Uh note 0 200).2.1 (Uh note 0 200).2.2;have HPE:=Hd (parse_end (note:=note));have HPC:=Hd fun e c=>parse_cd (note:=note) (e:=e) (c:=c)
 have HPG:=Hd fun g c=>parse_c2 (note:=note) (g:=g) (c:=c)
 have HPB:=Hd fun e g c=>parse_bad (note:=note) (e:=e) (g:=g) (c:=c)
 have HPO:=Hd fun e g c=>parse_good (note:=note) (e:=e) (g:=g) (c:=c)
 obtain ⟨t1,h1⟩:∃ t,Uh note 0 200=t:=⟨_,rfl⟩
 obtain ⟨a1,l1,r1⟩:=t1;simp only [h1] at hz1 hl1 hl2 HPE HPC HPG HPB HPO;obtain ⟨t2,h2⟩:∃ t,Uh l1 r1 200=t:=⟨_,rfl⟩
 obtain ⟨a2,l2,r2⟩:=t2;simp only [h2] at hl2 HPE HPC HPG HPB HPO;have HS:=Hd (And.intro hsm (show l1.size≤maxLen by unfold maxLen at hsm ⊢;omega));have HAZ:=Hd (And.intro hl1 hl2);have HH:=Hd (And.intro h1 h2);have HO:=Hd (V4 enZ enN)
 have HP0:Hid (PB w (((w.alloc (.cells (enC enZ enN).toArray 159)).alloc (.cells (enC enZ enN).toArray 159)).alloc (.cells #[.string note,.int .i64 0] 228))):=
  Hd ⟨((Blk.new w _ _).alloc _).alloc _,(U3 (w.alloc _) _ _ _ (by simp)).alloc _,(((Bf _ _).alloc (Le _) _).alloc (by simp) _).alloc (by simp;omega) _,by simp⟩
 clear h1 h2 hz1 hl1 hl2 hs hsm ht;go_enter Tryz.func87,Tryz.ntmps87
 go_wp2_with (first|((with_reducible refine Gb 159 ?_);refine U2 (by kernel_rfl) 159 _ rfl ((enC enZ enN).toArray) (by kernel_rfl) ?_)|(go_at_call 122;refine (Zi note ((w.alloc (.cells (enC enZ enN).toArray 159)).alloc (.cells (enC enZ enN).toArray 159))).mono ?_;rintro x w1 ⟨rfl,rfl⟩;have HR1:Hid (Rdr (((w.alloc (.cells (enC enZ enN).toArray 159)).alloc (.cells (enC enZ enN).toArray 159)).alloc (.cells #[.string note,.int .i64 0] 228)) (w.heap.size+2) note 0):=Hd (U3 ((w.alloc (.cells (enC enZ enN).toArray 159)).alloc (.cells (enC enZ enN).toArray 159)) _ _ _ (by simp));rw [show ((w.alloc (.cells (enC enZ enN).toArray 159)).alloc (.cells (enC enZ enN).toArray 159)).heap.size=w.heap.size+2 by simp])|(go_at_call 123;refine (J9 (w.heap.size+2) note 0 200 _ HS.out.1 HR1.out (by decide) (by decide)).mono ?_;rintro x w2 ⟨rfl,hrd,hfa⟩;have HR2:Hid (Rdr w2 (w.heap.size+2) l1 r1):=Hd (by rw [HH.out.1] at hrd;exact hrd);have HP2:Hid (PB w w2):=Hd (HP0.out.far hfa (by simp));rw [HH.out.1];clear hrd hfa HR1)|(go_at_call 123;refine (J9 (w.heap.size+2) l1 r1 200 _ HS.out.2 HR2.out (by decide) (by decide)).mono ?_;rintro x w3 ⟨rfl,hrd,hfa⟩;have HR3:Hid (Rdr w3 (w.heap.size+2) l2 r2):=Hd (by rw [HH.out.2] at hrd;exact hrd);have HP3:Hid (PB w w3):=Hd (HP2.out.far hfa (by simp));rw [HH.out.2];clear hrd hfa HR2)|(go_at_call 124;refine (Kr _ _ _ _ HR3.out).mono ?_;rintro x w4 ⟨rfl,rfl⟩;obtain ⟨ne,hne⟩:∃ ne,Zw l2 r2=ne:=⟨_,rfl⟩;simp only [hne] at HPE HPC HPG HPB HPO ⊢;clear hne;rcases (show ((ne == 0)=false∧(ne != 0)=true)∨((ne == 0)=true∧(ne != 0)=false) by unfold bne;cases (ne == 0)<;>simp) with ⟨b1,b2⟩|⟨b1,b2⟩)|((with_reducible refine Gt 159 2 ?_);refine Lt rfl 159 _ _ rfl (w.heap.size) ((enC enZ enN).toArray) rfl rfl 159 _ (by first|exact HP9.out.b1|exact HP3.out.b1) (by kernel_rfl) rfl HO.out ?_)|((with_reducible refine Gt 159 3 ?_);refine Lt rfl 159 _ _ rfl (w.heap.size+1) ((enC enZ enN).toArray) rfl rfl 159 _ (by first|exact Ul HP9.out.b2 (by omega)|exact Ul HP3.out.b2 (by omega)) (by kernel_rfl) rfl HO.out ?_)|(go_at_call 125;(with_reducible show Calls _ _ #[.string a1] _ _);refine (Fm a1 _ (by have:=HAZ.out.1;omega) (HT.out.after HP3.out.be)).mono ?_;rintro x w5 ⟨⟨o,a,hp,hq,rfl⟩,hb⟩;obtain ⟨e,ea,c,hdv,hdq,hsm,hk0,hk4,hew⟩:=dec_form hp hq;rw [hdv];have HP5:=Hd (HP3.out.next hb);have HDQ:=Hd hdq;have HE5:=Hd (And.intro hsm (And.intro hk0 hk4));have HEW5:=Hd hew;have HB5:=Hd fun old=>Blk.new w5 159 old;have HS5:=Hd fun old=>U1 w5 old (enC e ea).toArray 159;have HO5:=Hd (V4 e ea);have HB6:Hid (∀ old,Blk ((w5.alloc (.cells (enC e ea).toArray 159)).alloc (.cells old 159)) (w5.heap.size+1) 159 old):=Hd fun old=>U3 (w5.alloc (.cells (enC e ea).toArray 159)) _ _ _ (by simp);have HS6:Hid (∀ old,((w5.alloc (.cells (enC e ea).toArray 159)).alloc (.cells old 159)).setRow (w5.heap.size+1) (enC enZ enN).toArray=((w5.alloc (.cells (enC e ea).toArray 159)).alloc (.cells (enC enZ enN).toArray 159))):=Hd fun old=>Ue (w5.alloc (.cells (enC e ea).toArray 159)) (w5.heap.size+1) (by simp) old (enC enZ enN).toArray 159;have HX6:Hid (Blk ((w5.alloc (.cells (enC e ea).toArray 159)).alloc (.cells (enC enZ enN).toArray 159)) w5.heap.size 159 (enC e ea).toArray∧Blk ((w5.alloc (.cells (enC e ea).toArray 159)).alloc (.cells (enC enZ enN).toArray 159)) (w5.heap.size+1) 159 (enC enZ enN).toArray):=Hd ⟨(Blk.new w5 _ _).alloc _,U3 (w5.alloc (.cells (enC e ea).toArray 159)) _ _ _ (by simp)⟩;have HBX:Hid (Below w5.heap.size w5 ((w5.alloc (.cells (enC e ea).toArray 159)).alloc (.cells (enC enZ enN).toArray 159))):=Hd (((Bf _ _).alloc (Le _) _).alloc (by simp) _);have HP6:Hid (PB w ((w5.alloc (.cells (enC e ea).toArray 159)).alloc (.cells (enC enZ enN).toArray 159))):=Hd (HP5.out.next HBX.out);clear hdv hdq hsm hk0 hk4 hew hp hq hb;rcases (show ((c == 0)=false∧(c != 0)=true)∨((c == 0)=true∧(c != 0)=false∧(a2.toList == [])=true)∨((c == 0)=true∧(c != 0)=false∧(a2.toList == [])=false) by unfold bne;cases (c == 0)<;>cases (a2.toList == [])<;>simp) with ⟨c1,c2⟩|⟨c1,c2,q2⟩|⟨c1,c2,q2⟩)|(go_at_call 125;(with_reducible show Calls _ _ #[.string a2] _ _);refine (Fm a2 _ (by have:=HAZ.out.2;omega) (HT.out.after HP6.out.be)).mono ?_;rintro x w8 ⟨⟨o,a,hp,hq,rfl⟩,hb⟩;obtain ⟨g,gb,c3,hdv,hdq,hsm,hk0,hk4,hew⟩:=dec_form hp hq;rw [hdv];have HP8:=Hd (HP6.out.next hb);have HGQ:=Hd hdq;have HG8:=Hd (And.intro hsm (And.intro hk0 hk4));have HO8:=Hd (V4 g gb);have HX8:=Hd (And.intro (HX6.out.1.below hb HX6.out.1.lt) (HX6.out.2.below hb HX6.out.2.lt));have HXR:Hid (Blk (w8.setRow (w5.heap.size+1) (enC g gb).toArray) w5.heap.size 159 (enC e ea).toArray∧Blk (w8.setRow (w5.heap.size+1) (enC g gb).toArray) (w5.heap.size+1) 159 (enC g gb).toArray):=Hd ⟨Ul HX8.out.1 (by omega),setRow_heap _ _ _ _ _ _ HX8.out.2⟩;have HFR:Hid (Far [w5.heap.size+1] w8 (w8.setRow (w5.heap.size+1) (enC g gb).toArray)):=Hd (far_row _ _ _);have HPR:Hid (PB w (w8.setRow (w5.heap.size+1) (enC g gb).toArray)):=Hd (HP8.out.far HFR.out (by have:=HP5.out.sz;simp;omega));have HEWR:Hid (EW [] (w8.setRow (w5.heap.size+1) (enC g gb).toArray) e ea):=Hd ((((HEW5.out.ew0.fresh (S:=[w5.heap.size+1]) HBX.out (by simp)).below hb).far HFR.out (fun _ h=>h)).less (by simp));have HGWR:Hid (EW [] (w8.setRow (w5.heap.size+1) (enC g gb).toArray) g gb):=Hd (hew.row (by simp) _);clear hdv hdq hsm hk0 hk4 hew hp hq hb;have HC1:=Hd c1;clear c1 c2;rcases (show ((c3 == 0)=false∧(c3 != 0)=true)∨((c3 == 0)=true∧(c3 != 0)=false) by unfold bne;cases (c3 == 0)<;>simp) with ⟨c1,c2⟩|⟨c1,c2⟩)|((with_reducible refine Gt 159 8 ?_);refine Lt rfl 159 _ _ rfl (w5.heap.size) ((enC e ea).toArray) rfl rfl 159 _ (HB5.out _) (by kernel_rfl) rfl HO5.out ?_;rw [HS5.out])|((with_reducible refine Gt 159 10 ?_);refine Lt rfl 159 _ _ rfl (w5.heap.size+1) ((enC g gb).toArray) rfl rfl 159 _ HX8.out.2 (by kernel_rfl) rfl HO8.out ?_)|((with_reducible refine Gt 159 10 ?_);refine Lt rfl 159 _ _ rfl (w5.heap.size+1) ((enC enZ enN).toArray) rfl rfl 159 _ (HB6.out _) (by kernel_rfl) rfl HO.out ?_;rw [HS6.out])|((with_reducible refine Gl 159 8 ?_);refine Lr rfl 159 _ rfl (w5.heap.size) rfl 159 ((enC e ea).toArray) (0,0) _ (by first|exact HXR.out.1|exact HX6.out.1) Tryz.underlying159 rfl (by kernel_rfl) ?_)|((with_reducible refine Gl 159 10 ?_);refine Lr rfl 159 _ rfl (w5.heap.size+1) rfl 159 ((enC g gb).toArray) (0,0) _ HXR.out.2 Tryz.underlying159 rfl (by kernel_rfl) ?_)|((with_reducible refine Gl 159 10 ?_);refine Lr rfl 159 _ rfl (w5.heap.size+1) rfl 159 ((enC enZ enN).toArray) (0,0) _ HX6.out.2 Tryz.underlying159 rfl (by kernel_rfl) ?_)|(go_at_call 126;refine (note_any e g ea gb (w8.setRow (w5.heap.size+1) (enC g gb).toArray) HEWR.out HGWR.out HE5.out.1 HG8.out.1 HE5.out.2.1 HE5.out.2.2 HG8.out.2.1 HG8.out.2.2 (HT.out.after HPR.out.be)).mono ?_;rintro x w9 ⟨rfl,hb⟩;obtain ⟨es,ec,hev,hen⟩:=encV_any (Xd e g);rw [hev];have HP9:=Hd (HPR.out.next hb);have HN9:=Hd hen;have HX9:=Hd (And.intro (HXR.out.1.below hb HXR.out.1.lt) (HXR.out.2.below hb HXR.out.2.lt));clear hev hen hb;rcases (show ((ec == 0)=false∧(ec != 0)=true)∨((ec == 0)=true∧(ec != 0)=false∧(es.toList == note.toList)=false)∨((ec == 0)=true∧(ec != 0)=false∧(es.toList == note.toList)=true) by unfold bne;cases (ec == 0)<;>cases (es.toList == note.toList)<;>simp) with ⟨n1,n2⟩|⟨n1,n2,n3⟩|⟨n1,n2,n3⟩)|(go_at_call 126;refine (note_any e enZ ea enN ((w5.alloc (.cells (enC e ea).toArray 159)).alloc (.cells (enC enZ enN).toArray 159)) (HEW5.out.ew0.below HBX.out) (ew_zero _ _) HE5.out.1 (And.intro Fy (And.intro (show (0:Int)≤enZ.kind by decide) (show enZ.kind≤4 by decide))).1 HE5.out.2.1 HE5.out.2.2 (And.intro Fy (And.intro (show (0:Int)≤enZ.kind by decide) (show enZ.kind≤4 by decide))).2.1 (And.intro Fy (And.intro (show (0:Int)≤enZ.kind by decide) (show enZ.kind≤4 by decide))).2.2 (HT.out.after HP6.out.be)).mono ?_;rintro x w9 ⟨rfl,hb⟩;obtain ⟨es,ec,hev,hen⟩:=encV_any (Xd e enZ);rw [hev];have HP9:=Hd (HP6.out.next hb);have HN9:=Hd hen;have HX9:=Hd (And.intro (HX6.out.1.below hb HX6.out.1.lt) (HX6.out.2.below hb HX6.out.2.lt));clear hev hen hb;rcases (show ((ec == 0)=false∧(ec != 0)=true)∨((ec == 0)=true∧(ec != 0)=false∧(es.toList == note.toList)=false)∨((ec == 0)=true∧(ec != 0)=false∧(es.toList == note.toList)=true) by unfold bne;cases (ec == 0)<;>cases (es.toList == note.toList)<;>simp) with ⟨n1,n2⟩|⟨n1,n2,n3⟩|⟨n1,n2,n3⟩))
 ·exact Br (v:=.tuple #[.agg (enC enZ enN).toArray,.agg (enC enZ enN).toArray,.int .i64 11]) (Ut Tryz.results87 rfl rfl rfl (Ur HP3.out.b1 HP3.out.b2 (by omega) (by simp [enC]) (by simp [enC])).1 (Ur HP3.out.b1 HP3.out.b2 (by omega) (by simp [enC]) (by simp [enC])).2) rfl (ParG.none (HPE.out b1) (HP3.out.end' _ _))
 ·exact Br (v:=.tuple #[.agg (enC enZ enN).toArray,.agg (enC enZ enN).toArray,.int .i64 11]) (Ut Tryz.results87 rfl rfl rfl (Ur HP9.out.b1 HP9.out.b2 (by omega) (by simp [enC]) (by simp [enC])).1 (Ur HP9.out.b1 HP9.out.b2 (by omega) (by simp [enC]) (by simp [enC])).2) rfl (ParG.none (HPC.out e c HDQ.out c1) (HP9.out.end' _ _))
 ·exact Br (v:=.tuple #[.agg (enC enZ enN).toArray,.agg (enC enZ enN).toArray,.int .i64 11]) (Ut Tryz.results87 rfl rfl rfl (Ur HP9.out.b1 HP9.out.b2 (by omega) (by simp [enC]) (by simp [enC])).1 (Ur HP9.out.b1 HP9.out.b2 (by omega) (by simp [enC]) (by simp [enC])).2) rfl (ParG.none (HPC.out e c HDQ.out c1) (HP9.out.end' _ _))
 ·exact Br (v:=.tuple #[.agg (enC enZ enN).toArray,.agg (enC enZ enN).toArray,.int .i64 11]) (Ut Tryz.results87 rfl rfl rfl (Ur HP9.out.b1 HP9.out.b2 (by omega) (by simp [enC]) (by simp [enC])).1 (Ur HP9.out.b1 HP9.out.b2 (by omega) (by simp [enC]) (by simp [enC])).2) rfl (ParG.none (HPC.out e c HDQ.out c1) (HP9.out.end' _ _))
 ·exact Br (v:=.tuple #[.agg (enC enZ enN).toArray,.agg (enC enZ enN).toArray,.int .i64 11]) (Ut Tryz.results87 rfl rfl rfl (Ur HP9.out.b1 HP9.out.b2 (by omega) (by simp [enC]) (by simp [enC])).1 (Ur HP9.out.b1 HP9.out.b2 (by omega) (by simp [enC]) (by simp [enC])).2) rfl (ParG.none (HPB.out e enZ c HDQ.out (.inl ⟨q2,rfl⟩) (nn_of HN9.out (.inl n1))) (HP9.out.end' _ _))
 ·exact Br (v:=.tuple #[.agg (enC enZ enN).toArray,.agg (enC enZ enN).toArray,.int .i64 11]) (Ut Tryz.results87 rfl rfl rfl (Ur HP9.out.b1 HP9.out.b2 (by omega) (by simp [enC]) (by simp [enC])).1 (Ur HP9.out.b1 HP9.out.b2 (by omega) (by simp [enC]) (by simp [enC])).2) rfl (ParG.none (HPB.out e enZ c HDQ.out (.inl ⟨q2,rfl⟩) (nn_of HN9.out (.inr n3))) (HP9.out.end' _ _))
 ·have HXd:Hid (Blk w9.drew w5.heap.size 159 (enC e ea).toArray∧Blk w9.drew (w5.heap.size+1) 159 (enC enZ enN).toArray):=Hd ⟨HX9.out.1,HX9.out.2⟩
  have HPd:Hid (PB w w9.drew):=Hd (HP9.out.next (Bf _ _).drew);have hsz:w.heap.size+3≤w5.heap.size:=HP5.out.sz;refine Rw (S:=fun w'=>Blk w' w5.heap.size 159 (enC e ea).toArray∧Blk w' (w5.heap.size+1) 159 (enC enZ enN).toArray) (by kernel_rfl) HXd.out (fun Hh=>?_);refine tk 0 (.agg (enC e ea).toArray) Hh ?_ (y:=by exact yieldsIf_load_mid (by rfl) 159 _ rfl w5.heap.size 0 rfl (enC e ea) _ (fun w' hSw j v hv=>by rw [hSw.1.cell,Nat.zero_add,Ga];exact hv) Tryz.underlying159 rfl (by kernel_rfl));refine tk 1 (.agg (enC enZ enN).toArray) Hh ?_ (y:=by exact yieldsIf_load_mid (by rfl) 159 _ rfl (w5.heap.size+1) 0 rfl ((enC enZ enN)) _ (fun w' hSw j v hv=>by rw [hSw.2.cell,Nat.zero_add,Ga];exact hv) Tryz.underlying159 rfl (by kernel_rfl));refine Ar (rs:=[2]) (by kernel_rfl) (by simp) ?_;refine Rc (fun K hK=>?_) ?_
  ·refine wp_store_row 159 _ _ rfl (w.heap.size) ((enC e ea).toArray) rfl rfl 159 _ HPd.out.b1 (by kernel_rfl) rfl (V4 _ _) ?_
   refine hK.out _ _ ⟨Ul Hh.1 (by omega),Ul Hh.2 (by omega)⟩ (fun Hh=>?_);clear hK K;try simp only [Act.put]
   refine Ar (rs:=[3]) (by kernel_rfl) (by simp) ?_;refine Rc (fun K hK=>?_) ?_
   ·refine wp_store_row 159 _ _ rfl (w.heap.size+1) ((enC enZ enN).toArray) rfl rfl 159 _ (Ul HPd.out.b2 (by omega)) (by kernel_rfl) rfl (V4 _ _) ?_
    refine hK.out _ _ ⟨Ul Hh.1 (by omega),Ul Hh.2 (by omega)⟩ (fun Hh=>?_);clear hK K;try simp only [Act.put]
    refine tk 4 (.int .i64 0) Hh ?_;refine Ad (by kernel_rfl) ?_ _;clear Hh;go_wp2;exact Br (v:=.tuple #[.agg (enC e ea).toArray,.agg (enC enZ enN).toArray,.int .i64 0]) (Ut Tryz.results87 rfl rfl rfl (Ur HPd.out.b1 HPd.out.b2 (by omega) (by simp [enC]) (by simp [enC])).1 (Ur HPd.out.b1 HPd.out.b2 (by omega) (by simp [enC]) (by simp [enC])).2) rfl (ParG.some (HPO.out e enZ c HDQ.out c1 b1 (.inl ⟨q2,rfl⟩) (ny_of HN9.out n1 n3)) (HPd.out.end' _ _))
   exact An
  exact An
 ·exact Br (v:=.tuple #[.agg (enC enZ enN).toArray,.agg (enC enZ enN).toArray,.int .i64 11]) (Ut Tryz.results87 rfl rfl rfl (Ur HP9.out.b1 HP9.out.b2 (by omega) (by simp [enC]) (by simp [enC])).1 (Ur HP9.out.b1 HP9.out.b2 (by omega) (by simp [enC]) (by simp [enC])).2) rfl (ParG.none (HPG.out g c3 q2 HGQ.out c1) (HP9.out.end' _ _))
 ·exact Br (v:=.tuple #[.agg (enC enZ enN).toArray,.agg (enC enZ enN).toArray,.int .i64 11]) (Ut Tryz.results87 rfl rfl rfl (Ur HP9.out.b1 HP9.out.b2 (by omega) (by simp [enC]) (by simp [enC])).1 (Ur HP9.out.b1 HP9.out.b2 (by omega) (by simp [enC]) (by simp [enC])).2) rfl (ParG.none (HPG.out g c3 q2 HGQ.out c1) (HP9.out.end' _ _))
 ·exact Br (v:=.tuple #[.agg (enC enZ enN).toArray,.agg (enC enZ enN).toArray,.int .i64 11]) (Ut Tryz.results87 rfl rfl rfl (Ur HP9.out.b1 HP9.out.b2 (by omega) (by simp [enC]) (by simp [enC])).1 (Ur HP9.out.b1 HP9.out.b2 (by omega) (by simp [enC]) (by simp [enC])).2) rfl (ParG.none (HPG.out g c3 q2 HGQ.out c1) (HP9.out.end' _ _))
 ·exact Br (v:=.tuple #[.agg (enC enZ enN).toArray,.agg (enC enZ enN).toArray,.int .i64 11]) (Ut Tryz.results87 rfl rfl rfl (Ur HP9.out.b1 HP9.out.b2 (by omega) (by simp [enC]) (by simp [enC])).1 (Ur HP9.out.b1 HP9.out.b2 (by omega) (by simp [enC]) (by simp [enC])).2) rfl (ParG.none (HPB.out e g c HDQ.out (Gq.of q2 HGQ.out c1) (nn_of HN9.out (.inl n1))) (HP9.out.end' _ _))
 ·exact Br (v:=.tuple #[.agg (enC enZ enN).toArray,.agg (enC enZ enN).toArray,.int .i64 11]) (Ut Tryz.results87 rfl rfl rfl (Ur HP9.out.b1 HP9.out.b2 (by omega) (by simp [enC]) (by simp [enC])).1 (Ur HP9.out.b1 HP9.out.b2 (by omega) (by simp [enC]) (by simp [enC])).2) rfl (ParG.none (HPB.out e g c HDQ.out (Gq.of q2 HGQ.out c1) (nn_of HN9.out (.inr n3))) (HP9.out.end' _ _))
 ·have HXd:Hid (Blk w9.drew w5.heap.size 159 (enC e ea).toArray∧Blk w9.drew (w5.heap.size+1) 159 (enC g gb).toArray):=Hd ⟨HX9.out.1,HX9.out.2⟩
  have HPd:Hid (PB w w9.drew):=Hd (HP9.out.next (Bf _ _).drew);have hsz:w.heap.size+3≤w5.heap.size:=HP5.out.sz;refine Rw (S:=fun w'=>Blk w' w5.heap.size 159 (enC e ea).toArray∧Blk w' (w5.heap.size+1) 159 (enC g gb).toArray) (by kernel_rfl) HXd.out (fun Hh=>?_);refine tk 0 (.agg (enC e ea).toArray) Hh ?_ (y:=by exact yieldsIf_load_mid (by rfl) 159 _ rfl w5.heap.size 0 rfl (enC e ea) _ (fun w' hSw j v hv=>by rw [hSw.1.cell,Nat.zero_add,Ga];exact hv) Tryz.underlying159 rfl (by kernel_rfl));refine tk 1 (.agg (enC g gb).toArray) Hh ?_ (y:=by exact yieldsIf_load_mid (by rfl) 159 _ rfl (w5.heap.size+1) 0 rfl ((enC g gb)) _ (fun w' hSw j v hv=>by rw [hSw.2.cell,Nat.zero_add,Ga];exact hv) Tryz.underlying159 rfl (by kernel_rfl));refine Ar (rs:=[2]) (by kernel_rfl) (by simp) ?_;refine Rc (fun K hK=>?_) ?_
  ·refine wp_store_row 159 _ _ rfl (w.heap.size) ((enC e ea).toArray) rfl rfl 159 _ HPd.out.b1 (by kernel_rfl) rfl (V4 _ _) ?_
   refine hK.out _ _ ⟨Ul Hh.1 (by omega),Ul Hh.2 (by omega)⟩ (fun Hh=>?_);clear hK K;try simp only [Act.put]
   refine Ar (rs:=[3]) (by kernel_rfl) (by simp) ?_;refine Rc (fun K hK=>?_) ?_
   ·refine wp_store_row 159 _ _ rfl (w.heap.size+1) ((enC g gb).toArray) rfl rfl 159 _ (Ul HPd.out.b2 (by omega)) (by kernel_rfl) rfl (V4 _ _) ?_
    refine hK.out _ _ ⟨Ul Hh.1 (by omega),Ul Hh.2 (by omega)⟩ (fun Hh=>?_);clear hK K;try simp only [Act.put]
    refine tk 4 (.int .i64 0) Hh ?_;refine Ad (by kernel_rfl) ?_ _;clear Hh;go_wp2;exact Br (v:=.tuple #[.agg (enC e ea).toArray,.agg (enC g gb).toArray,.int .i64 0]) (Ut Tryz.results87 rfl rfl rfl (Ur HPd.out.b1 HPd.out.b2 (by omega) (by simp [enC]) (by simp [enC])).1 (Ur HPd.out.b1 HPd.out.b2 (by omega) (by simp [enC]) (by simp [enC])).2) rfl (ParG.some (HPO.out e g c HDQ.out HC1.out b1 (Gq.of q2 HGQ.out c1) (ny_of HN9.out n1 n3)) (HPd.out.end' _ _))
   exact An
  exact An
end
end Go.Proofs.YtapanepkfbamhaaGreatDoor
