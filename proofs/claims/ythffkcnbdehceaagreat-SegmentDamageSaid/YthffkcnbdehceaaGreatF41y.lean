/-The walks of the functions of F41y,printed by our own program (kwgen.py) out of our descriptions (base.py). -/
import Derived.Test.YthffkcnbdehceaaGreatF41o
import Derived.Test.YthffkcnbdehceaaGreatM41x
import Derived.Test.YthffkcnbdehceaaGreatKby
open List
open Go.Proofs.Tryz
set_option linter.unusedVariables false
set_option linter.unusedSimpArgs false
set_option linter.unusedSectionVars false
namespace Go.Proofs.YthffkcnbdehceaaGreat
open Go.RowKit Go.Kw
set_option maxRecDepth 100000
theorem AW (v:Value) (b:List Nat) (w:World) (hv:RdL w v (a8 .u8) b) (hb:∀ x∈b,x<256) (hn:b.length<=1000000000):
  CallsV prog 96 [v] w λ r w'=>(∃ e:Int,e≠0/\r= .tuple #[.slice none 0 0,.int .i64 e]/\Sat w [] w')\/∃ v' p,b=aE p/\r= .tuple #[v',.int .i64 ((0:Nat):Int)]/\Sat w [cL v' 5 (a8 .u8) p] w':=by
 refine cc func96 rfl λ hs0=> .Z rfl<| .seq<| .h<| .ln 1 (hv.ext hs0.ext) rfl<| .Z rfl<| .ab rfl (λ c1=> ?_) λ c1=> ?_
 ·refine .Z rfl<| .bG rfl rfl rfl ?_
  exact .inl ⟨_,by decide,rfl,hs0.pk []⟩
 refine .skip<| .h<| .ln 1 (hv.ext hs0.ext) rfl<| .Z rfl<| .seq<| .seq<| .dk [] hs0 rfl (pl [0,1,2,5,6,7] (.two 3 8 (.two 4 8 (pl [1008,9,10] .fin) (pl [9,1004,10] .fin)) (pl [9,1003,1004,10] .fin))) λ s2 S1=> .z 2 S1 rfl<| .e rfl (λ _ s=> .bk (E:=a8 .u8) (a:=0) (c:=(b.length-4)) cg rfl (hv.ext s.ext) rfl ⟨_,rfl⟩ (Nat.zero_le _) (by omega)) S1<| .z 2 S1 rfl<| .e rfl (λ _ s=> .bk (E:=a8 .u8) (a:=(b.length-4)) (c:=(b).length) cg rfl (hv.ext s.ext) ⟨_,rfl⟩ rfl (by omega) (Nat.le_refl _)) S1<| .two rfl rfl rfl rfl rfl rfl (OpE.call LG rfl ((sC _ (((b).take (b.length-4)).drop 0) _ (((hv.ext s2.ext)).sub (a:=0) (b:=(b.length-4)) (Nat.zero_le _) (by omega)) (λ x hx=>hb x (mem_of_mem_take (mem_of_mem_drop hx))) (by simp;omega)).mono λ r1 _ h1=> ?_)) (OpE.ev (Ev.wG (E:=a8 .u8) underlying142 rfl (((hv.ext s2.ext)).sub (a:=(b.length-4)) (b:=(b).length) (by omega) (Nat.le_refl _)) (by simp;omega)) ⟨S1,?_⟩)
 ·obtain ⟨rfl,p1⟩:=h1
  have s3:=s2.aD p1
  have S2:=s3.pk []
  refine ⟨S2,?_⟩
  refine .two rfl rfl rfl rfl rfl rfl (OpE.call LF rfl ((ef ((iP (((b).take (b.length-4)).drop 0))) _ (jg (λ x hx=>hb x (mem_of_mem_take (mem_of_mem_drop hx))))).mono λ r2 _ h2=> ?_)) (OpE.ev (Ev.wG (E:=a8 .u8) underlying142 rfl (((hv.ext s3.ext)).sub (a:=(b.length-4)) (b:=(b).length) (by omega) (Nat.le_refl _)) (by simp;omega)) ⟨S2,?_⟩)
  ·obtain ⟨rfl,p2⟩:=h2
   have s4:=s3.aD p2
   have S3:=s4.pk []
   refine ⟨S3,?_⟩
   refine .f rfl (.ev (Ev.wG (E:=a8 .u8) underlying142 rfl (((hv.ext s4.ext)).sub (a:=(b.length-4)) (b:=(b).length) (by omega) (Nat.le_refl _)) (by simp;omega)) ⟨S3,?_⟩)
   refine .e rfl (λ _ s=> .wD (E:=a8 .u8) my rfl (((hv.ext s.ext)).sub (a:=(b.length-4)) (b:=(b).length) (by omega) (Nat.le_refl _)) (by show _*1=_;simp;omega) (by decide)) S3<| .e rfl (λ _ s=> .kV iw (rfl) (by simp;omega) rfl rfl) S3<| .fin<| .ab rfl (λ c2=> ?_) λ c2=> ?_
   ·refine .Z rfl<| .bG rfl rfl rfl ?_
    exact .inl ⟨_,by decide,rfl,s4.pk []⟩
   refine .skip<| .h<| .f rfl (.l7 (a8 .u8) cg s4 λ v1 _ s6 _=> ?_)
   have s6:=s6.nn
   refine .a 2 rfl (.bk (E:=a8 .u8) (a:=0) (c:=(b.length-4)) cg rfl (hv.ext s6.ext) rfl ⟨_,rfl⟩ (Nat.zero_le _) (by omega))<| .ap 0 s6 0 (((hv.ext s6.ext)).sub (a:=0) (b:=(b.length-4)) (Nat.zero_le _) (by omega)) rfl λ v2 _ s7 _=> .Z rfl<| .bG rfl rfl rfl ?_
   have s9:=(s7.pk [0]).cF 0 rfl (show ((b).take (b.length-4)).drop 0=b.take (b.length-4) from by simp)
   have hq:b=aE (b.take (b.length-4)):=by
    have h9:=Decidable.not_not.1 c2
    rw [drop_zero,take_length] at h9
    unfold aE
    rw [h9,take_append_drop]
   exact .inr ⟨_,_,hq,rfl,s9⟩
  refine .e rfl (λ _ s=> .wD (E:=a8 .u8) my rfl (((hv.ext s.ext)).sub (a:=(b.length-4)) (b:=(b).length) (by omega) (Nat.le_refl _)) (by show _*1=_;simp;omega) (by decide)) S2<| .c 0 S2 (ef ((iP (((b).take (b.length-4)).drop 0))) _ (jg (λ x hx=>hb x (mem_of_mem_take (mem_of_mem_drop hx))))) rfl λ r3 _ h3=> ?_
  obtain ⟨rfl,p3⟩:=h3
  have s10:=s3.aD p3
  have S4:=s10.pk []
  refine ⟨S4,?_⟩
  refine .e rfl (λ _ s=> .kV iw (rfl) (by simp;omega) rfl rfl) S4<| .fin<| .ab rfl (λ c3=> ?_) λ c3=> ?_
  ·refine .Z rfl<| .bG rfl rfl rfl ?_
   exact .inl ⟨_,by decide,rfl,s10.pk []⟩
  refine .skip<| .h<| .f rfl (.l7 (a8 .u8) cg s10 λ v3 _ s12 _=> ?_)
  have s12:=s12.nn
  refine .a 2 rfl (.bk (E:=a8 .u8) (a:=0) (c:=(b.length-4)) cg rfl (hv.ext s12.ext) rfl ⟨_,rfl⟩ (Nat.zero_le _) (by omega))<| .ap 0 s12 0 (((hv.ext s12.ext)).sub (a:=0) (b:=(b.length-4)) (Nat.zero_le _) (by omega)) rfl λ v_4 _ s13 _=> .Z rfl<| .bG rfl rfl rfl ?_
  have s15:=(s13.pk [0]).cF 0 rfl (show ((b).take (b.length-4)).drop 0=b.take (b.length-4) from by simp)
  have hq:b=aE (b.take (b.length-4)):=by
   have h9:=Decidable.not_not.1 c3
   rw [drop_zero,take_length] at h9
   unfold aE
   rw [h9,take_append_drop]
  exact .inr ⟨_,_,hq,rfl,s15⟩
 refine .e rfl (λ _ s=> .wD (E:=a8 .u8) my rfl (((hv.ext s.ext)).sub (a:=(b.length-4)) (b:=(b).length) (by omega) (Nat.le_refl _)) (by show _*1=_;simp;omega) (by decide)) S1<| .c 0 S1 (sC _ (((b).take (b.length-4)).drop 0) _ (((hv.ext s2.ext)).sub (a:=0) (b:=(b.length-4)) (Nat.zero_le _) (by omega)) (λ x hx=>hb x (mem_of_mem_take (mem_of_mem_drop hx))) (by simp;omega)) rfl λ r4 _ h4=> ?_
 obtain ⟨rfl,p4⟩:=h4
 have s16:=s2.aD p4
 have S5:=s16.pk []
 refine ⟨S5,?_⟩
 refine .c 0 S5 (ef ((iP (((b).take (b.length-4)).drop 0))) _ (jg (λ x hx=>hb x (mem_of_mem_take (mem_of_mem_drop hx))))) rfl λ r5 _ h5=> ?_
 obtain ⟨rfl,p5⟩:=h5
 have s17:=s16.aD p5
 have S6:=s17.pk []
 refine ⟨S6,?_⟩
 refine .e rfl (λ _ s=> .kV iw (rfl) (by simp;omega) rfl rfl) S6<| .fin<| .ab rfl (λ c4=> ?_) λ c4=> ?_
 ·refine .Z rfl<| .bG rfl rfl rfl ?_
  exact .inl ⟨_,by decide,rfl,s17.pk []⟩
 refine .skip<| .h<| .f rfl (.l7 (a8 .u8) cg s17 λ v5 _ s19 _=> ?_)
 have s19:=s19.nn
 refine .a 2 rfl (.bk (E:=a8 .u8) (a:=0) (c:=(b.length-4)) cg rfl (hv.ext s19.ext) rfl ⟨_,rfl⟩ (Nat.zero_le _) (by omega))<| .ap 0 s19 0 (((hv.ext s19.ext)).sub (a:=0) (b:=(b.length-4)) (Nat.zero_le _) (by omega)) rfl λ v6 _ s20 _=> ?_
 have s20d:Sat w [cL v6 5 (a8 .u8) (((b).take (b.length-4)).drop 0)] _:=s20
 refine .Z rfl<| .bG rfl rfl rfl ?_
 have s22:=(s20d.pk [0]).cF 0 rfl (show ((b).take (b.length-4)).drop 0=b.take (b.length-4) from by simp)
 have hq:b=aE (b.take (b.length-4)):=by
  have h9:=Decidable.not_not.1 c4
  rw [drop_zero,take_length] at h9
  unfold aE
  rw [h9,take_append_drop]
 exact .inr ⟨_,_,hq,rfl,s22⟩
theorem DR {v:Value} {b:List Nat} {w:World} (hv:RdL w v (a8 .u8) b) (hb:∀ x∈b,x<256) (hn:b.length<=1000000000) (h:¬ ∃ p,b=aE p):CallsV prog 96 [v] w λ r w'=>∃ e:Int,e≠0/\r= .tuple #[.slice none 0 0,.int .i64 e]/\Sat w [] w':=
 (AW v b w hv hb hn).mono λ r w' hq=>by rcases hq with h1|⟨_,p,hp,_⟩;exact h1;exact absurd ⟨p,hp⟩ h
theorem J9 (x:ByteArray) (c:Co) (w:World) (hz:x.size<=100000000) (hno:¬ ∃ p,aV x=aE p):
  CallsV prog 41 [(.string x)] w λ r w'=>∃ (d:Co) (iv:SV) (okb:Bool) (F:List Nat),r= .tuple #[d.val,iv.val,.bool okb]/\(okb=true->c.v=d.v/\strOf (aE (di lexB bQ c.v))=x)/\(false=true->okb=true)/\Sat w [fa F (λ w1=>RdC w1 d)] w':=by
 refine cc func41 rfl λ hs0=> .h<| .al 0 hs0 rfl λ b1 _ s1 _ _=> .Z rfl<| .h<| .b 1 rfl (.fw underlying9 underlying45 underlying5 s1 rfl (by omega) λ v1 _ s2=> ?_)
 refine .c 0 (DR (s2.oH 1 rfl) (fQ x) (by rw [az];omega) hno) rfl λ r1 _ h1=> ?_
 obtain ⟨ue1,hue1,rfl,p1⟩:=h1
 have s3:=(s2.aD p1).nn
 refine .Z rfl<| .seq<| .h<| .a 1 rfl (.neq rfl rfl)<| .z 1 rfl<| .Gt 17 rfl (decide_eq_true (hue1))<| .Z rfl<| .dD rfl (rfl)<| .h<| .e rfl (.build rh rfl trivial rfl)<| .sa 0 s3 0 (vs:=[(.slice none 0 0),(.slice none 0 0),(.slice none 0 0),(.slice none 0 0),(.slice none 0 0),(.slice none 0 0),(.slice none 0 0)]) rfl (oc ⟨rfl,rfl,rfl,rfl,rfl,rfl,rfl,trivial⟩) λ _ s4 _=> .Z rfl<| .ret ?_
 show aK _ _ _ _ _ _
 refine xd (vs:=[(.slice none 0 0),(.slice none 0 0),(.slice none 0 0),(.slice none 0 0),(.slice none 0 0),(.slice none 0 0),(.slice none 0 0)]) rfl rfl rfl rfl da (λ j u hu=>s4.cell (i:=0) rfl hu) ?_
 have s6:=(s4.pk []).fO (Q:=λ w1=>RdC w1 oB) (λ w1=>rW w1)
 exact ⟨oB,⟨none,0,0⟩,false,_,rfl,(λ h=>by cases h),(λ h=>by cases h),s6.pk [0]⟩
theorem yx {c:Co} {n:Nat} {x:ByteArray} (ho:OkC n c) (hn:n<=3) (hz:x.size<=60000000) (h:∀ p,aV x=aE p->Agr p (di lexB bQ c.v)):P6 false x c:=λ w=>by
 by_cases he:∃ p,aV x=aE p
 ·obtain ⟨p,hp⟩:=he
  have hb:∀ y∈p,y<256:=λ y hy=>fQ x y (by rw [hp];exact mem_append_left _ hy)
  exact C7 false x p c n w ho hn hp hb (by have:=congrArg List.length hp;rw [az,aY] at this;omega) ⟨λ _=>⟨hb,h p hp⟩,λ h=>by cases h⟩ (by omega)
 exact J9 x c w (by omega) he
theorem sK {c:Co} {n:Nat} {x:ByteArray} {w:World} (ho:OkC n c) (hn:n<=3) (hz:x.size<=60000000) (h:∀ p,aV x=aE p->Agr p (di lexB bQ c.v)) (hne:strOf (aE (di lexB bQ c.v))≠x):CallsV prog 14 [.string x] w λ r w'=>∃ (d:Co) (F:List Nat),r= .tuple #[d.val,.int .i64 ((9:Nat):Int)]/\Sat w [fa F (λ w1=>RdC w1 d)] w':=
 (qd false x c w (yx ho hn hz h)).mono λ r w' hq=>by
  obtain ⟨d,okb,F,rfl,h3,_,h5⟩:=hq
  cases okb with
  |true=>exact absurd (h3 rfl).2 hne
  |false=>exact ⟨d,F,rfl,h5⟩
end Go.Proofs.YthffkcnbdehceaaGreat
