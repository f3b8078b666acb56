/-The walks of the functions of F42n,printed by our own program (kwgen.py) out of our descriptions (base.py). -/
import Derived.Test.YthffkcnbdehceaaGreatM13
import Derived.Test.YthffkcnbdehceaaGreatKm
import Derived.Test.YthffkcnbdehceaaGreatTab
open List
open Go.Proofs.Tryz
set_option linter.unusedVariables false
set_option linter.unusedSimpArgs false
set_option linter.unusedSectionVars false
namespace Go.Proofs.YthffkcnbdehceaaGreat
open Go.RowKit Go.Kw
set_option maxRecDepth 100000
theorem xz (c:Nat) (w:World):
  CallsV prog 174 [(.int .u8 c)] w λ r w'=>r= .bool (um c)/\Sat w [] w':=by
 refine cg func174 rfl λ hs0=> .Z rfl<| .seq<| .bN 2 ((((65<=c)/\(c<=90))\/((97<=c)/\(c<=122)))\/(c=95)) ?_ ?_
 ·refine .z 3 rfl<| .B 5 rfl (λ g1=> ?_) λ g1=> ?_
  ·refine .z 4 rfl<| .B 9 rfl (λ g2=> ?_) λ g2=> ?_
   ·refine .M rfl (by simp [g1,g2])
   refine .z 3 rfl<| .B 12 rfl (λ g3=> ?_) λ g3=> ?_
   ·refine .z 5 rfl<| .B 17 rfl (λ g4=> ?_) λ g4=> ?_
    ·refine .M rfl (by simp [g1,g2,g3,g4])
    refine .M rfl (by simp [g1,g2,g3,g4])
   refine .M rfl (by simp [g1,g2,g3])
  refine .z 7 rfl<| .B 12 rfl (λ g5=> ?_) λ g5=> ?_
  ·refine .z 5 rfl<| .B 17 rfl (λ g6=> ?_) λ g6=> ?_
   ·refine .M rfl (by simp [g1,g5,g6])
   refine .M rfl (by simp [g1,g5,g6])
  refine .M rfl (by simp [g1,g5])
 refine .aC rfl rfl ?_
 exact ⟨If Value.bool (by unfold um;exact T7.2 (by omega)),hs0⟩
theorem EW (c:Nat) (w:World):
  CallsV prog 175 [(.int .u8 c)] w λ r w'=>r= .bool (E2 c)/\Sat w [] w':=by
 refine cg func175 rfl λ hs0=> .Z rfl<| .seq<| .md [0] rfl (λ K L' w'=>Weak ([(2,(.bool (decide ((((um c)=true)\/((48<=c)/\(c<=57)))\/(c=45)))))]++K) L'/\Sat w [] w') ?_ ?_
 ·refine .region<| .cp 1 hs0 (xz (c) _) rfl λ _ s1=> .z 1 rfl ?_
  by_cases g1:(um c)=true
  ·refine .Gt 5 rfl (g1)<| .Z rfl ?_
   exact ⟨⟨If some (If Value.bool (by simp [g1])),rfl,trivial⟩,s1⟩
  refine .Gf 5 rfl (by simpa using g1)<| .z 3 rfl<| .B 8 rfl (λ g2=> ?_) λ g2=> ?_
  ·refine .z 5 rfl<| .B 13 rfl (λ g3=> ?_) λ g3=> ?_
   ·refine .Z rfl ?_
    exact ⟨⟨If some (If Value.bool (by simp [g1,g2,g3])),rfl,trivial⟩,s1⟩
   refine .Z rfl ?_
   exact ⟨⟨If some (If Value.bool (by simp [g1,g2,g3])),rfl,trivial⟩,s1⟩
  refine .Z rfl ?_
  exact ⟨⟨If some (If Value.bool (by simp [g1,g2])),rfl,trivial⟩,s1⟩
 rintro L' w2 ⟨hw1,s2⟩
 refine .weaken _ hw1<| .aC rfl rfl ?_
 exact ⟨If Value.bool (by unfold E2;exact T7.2 ⟨λ h=>h.elim (λ h=>h.elim .inl (λ h=> .inr (.inl h))) (λ h=> .inr (.inr h)),λ h=>h.elim (λ h=> .inl (.inl h)) (λ h=>h.elim (λ h=> .inl (.inr h)) .inr)⟩),s2⟩
theorem xA (c:Nat) (w:World):
  CallsV prog 193 [(.int .u8 c)] w λ r w'=>r= .bool (um c)/\Sat w [] w':=by
 refine cg func193 rfl λ hs0=> .Z rfl<| .seq<| .bN 2 (((c=95)\/((65<=c)/\(c<=90)))\/((97<=c)/\(c<=122))) ?_ ?_
 ·refine .z 3 rfl<| .B 5 rfl (λ g1=> ?_) λ g1=> ?_
  ·refine .M rfl (by simp [g1])
  refine .z 3 rfl<| .B 8 rfl (λ g2=> ?_) λ g2=> ?_
  ·refine .z 5 rfl<| .B 13 rfl (λ g3=> ?_) λ g3=> ?_
   ·refine .M rfl (by simp [g1,g2,g3])
   refine .z 3 rfl<| .B 16 rfl (λ g4=> ?_) λ g4=> ?_
   ·refine .M rfl (by simp [g1,g2,g3,g4])
   refine .M rfl (by simp [g1,g2,g3,g4])
  refine .z 8 rfl<| .B 16 rfl (λ g5=> ?_) λ g5=> ?_
  ·refine .M rfl (by simp [g1,g2,g5])
  refine .M rfl (by simp [g1,g2,g5])
 refine .aC rfl rfl ?_
 exact ⟨If Value.bool (by unfold um;exact T7.2 (by omega)),hs0⟩
theorem IH (c:Nat) (w:World):
  CallsV prog 194 [(.int .u8 c)] w λ r w'=>r= .bool (E2 c)/\Sat w [] w':=by
 refine cg func194 rfl λ hs0=> .Z rfl<| .seq<| .md [0] rfl (λ K L' w'=>Weak ([(2,(.bool (decide ((((um c)=true)\/((48<=c)/\(c<=57)))\/(c=45)))))]++K) L'/\Sat w [] w') ?_ ?_
 ·refine .region<| .cp 1 hs0 (xA (c) _) rfl λ _ s1=> .z 1 rfl ?_
  by_cases g1:(um c)=true
  ·refine .Gt 5 rfl (g1)<| .Z rfl ?_
   exact ⟨⟨If some (If Value.bool (by simp [g1])),rfl,trivial⟩,s1⟩
  refine .Gf 5 rfl (by simpa using g1)<| .z 3 rfl<| .B 8 rfl (λ g2=> ?_) λ g2=> ?_
  ·refine .z 5 rfl<| .B 13 rfl (λ g3=> ?_) λ g3=> ?_
   ·refine .Z rfl ?_
    exact ⟨⟨If some (If Value.bool (by simp [g1,g2,g3])),rfl,trivial⟩,s1⟩
   refine .Z rfl ?_
   exact ⟨⟨If some (If Value.bool (by simp [g1,g2,g3])),rfl,trivial⟩,s1⟩
  refine .Z rfl ?_
  exact ⟨⟨If some (If Value.bool (by simp [g1,g2])),rfl,trivial⟩,s1⟩
 rintro L' w2 ⟨hw1,s2⟩
 refine .weaken _ hw1<| .aC rfl rfl ?_
 exact ⟨If Value.bool (by unfold E2;exact T7.2 ⟨λ h=>h.elim (λ h=>h.elim .inl (λ h=> .inr (.inl h))) (λ h=> .inr (.inr h)),λ h=>h.elim (λ h=> .inl (.inl h)) (λ h=>h.elim (λ h=> .inl (.inr h)) .inr)⟩),s2⟩
theorem dH (s:ByteArray) (w:World):
  CallsV prog 112 [(.string s)] w λ r w'=>r= .bool (bC s)/\Sat w [] w':=by
 refine cg func112 rfl λ hs0=> .Z rfl<| .seq<| .seq ?_
 obtain ⟨b0,hb0⟩:∃ b0,1<=s.size->s.data.toList[0]? =some b0:=by rcases Q1 s.size 1 with h|h;exact ⟨0,λ h9=>absurd h9 (by omega)⟩;exact ⟨_,λ _=>py (show 0<s.data.toList.length from h)⟩
 refine .md [0,2] rfl (λ K L' w'=>Weak ([(17,(.bool (decide (((s.size<1)\/(32<s.size))\/((!(um b0.toNat))=true)))))]++K) L'/\Sat w [] w') ?_ ?_
 ·refine .region<| .a 1 rfl (.bo underlying9 rfl)<| .z 2 rfl<| .B 7 rfl (λ g1=> ?_) λ g1=> ?_
  ·refine .Z rfl ?_
   exact ⟨⟨If some (If Value.bool (by simp [g1])),rfl,rfl,trivial⟩,hs0⟩
  refine .a 1 rfl (.bo underlying9 rfl)<| .z 3 rfl<| .B 12 rfl (λ g2=> ?_) λ g2=> ?_
  ·refine .Z rfl ?_
   exact ⟨⟨If some (If Value.bool (by simp [g1,g2])),rfl,rfl,trivial⟩,hs0⟩
  refine .a 1 rfl (.eW underlying9 rfl rfl (hb0 (by omega)))<| .cp 0 hs0 (xz (b0.toNat) _) rfl λ _ s1=> .a 0 rfl (.cO rfl)<| .Z rfl ?_
  exact ⟨⟨If some (If Value.bool (by simp [g1,g2])),rfl,rfl,trivial⟩,s1⟩
 rintro L' w2 ⟨hw1,s2⟩
 refine .weaken _ hw1<| .ae rfl (λ c1=> ?_) λ c1=> ?_
 ·refine .Z rfl<| .aC rfl rfl ?_
  have hno:bC s=false:=by
   have h9:=c1
   rcases Q1 s.size 1 with h1|h1
   ·exact uq h1
   rcases Q1 32 s.size with h2|h2
   ·exact rW h2
   have h3:um b0.toNat=false:=by
    rcases h9 with h9|h9
    ·omega
    simpa using h9
   unfold bC;rw [pG (hb0 h1) h3,To]
  exact ⟨by rw [hno],s2⟩
 refine .skip<| .seq<| .seq ?_
 have hok1:1<=s.size/\s.size<=32/\um b0.toNat=true:=by have h9:=c1;simp only [not_or] at h9;exact ⟨by omega,by omega,by simpa using h9.2⟩
 have hb00:=hb0 hok1.1
 refine .region<| .a 1 rfl (.bo underlying9 rfl)<| .Z rfl<| .block<| .lq [0,19] rfl (α:=Nat) (λ k=>[(20,(.int .i64 k))]) (λ k w'=>Sat w [] w'/\(k<=s.size)/\(∀ (i:Nat) (d:UInt8),s.data.toList[i]? =some d->0<i->i<k->E2 d.toNat=true)) (λ k=>s.size-k) 0 ⟨s2,by omega,λ i d _ h1 h2=>absurd h2 (by omega)⟩ ?_
 rintro k w3 ⟨s3,hk,hall⟩
 refine .Z rfl<| .seq<| .ae rfl (λ c2=> ?_) λ c2=> ?_
 ·refine .skip<| .seq<| .block<| .Z rfl<| .seq ?_
  obtain ⟨x,hx⟩:∃ x,s.data.toList[k]? =some x:=⟨_,py (show k<s.data.toList.length from c2)⟩
  refine .region<| .a 2 rfl (.eW underlying9 rfl rfl hx)<| .cp 0 s3 (EW (x.toNat) _) rfl λ _ s4=> .e rfl (.cO rfl)<| .nil<| .cond rfl (λ c3=> ?_) (λ c3=> ?_)
  ·refine .Z rfl<| .aC rfl rfl ?_
   exact ⟨by unfold bC;rw [ur hx (by simpa using c3),To],s4⟩
  refine .skip<| .U rfl ?_
  exact aT (k+1) ⟨s4,by omega,λ i d hd h1 h2=>by
   by_cases hik:i=k
   ·subst hik;rw [hx] at hd;cases hd;simpa using c3
   ·exact hall i d hd h1 (by omega)⟩
 refine .ao<| .Z rfl<| .aC rfl rfl ?_
 exact ⟨by unfold bC;rw [rX hb00 hok1.2.2 (λ i d hd hi=>hall i d hd hi (by have h8:=(AT.1 hd).1;have h7:s.data.toList.length=s.size:=rfl;omega)),PM hok1.2.1]<;>rfl,s3⟩
theorem dO (s:ByteArray) (w:World):
  CallsV prog 134 [(.string s)] w λ r w'=>r= .bool (bC s)/\Sat w [] w':=by
 refine cg func134 rfl λ hs0=> .Z rfl<| .seq<| .seq ?_
 obtain ⟨b0,hb0⟩:∃ b0,1<=s.size->s.data.toList[0]? =some b0:=by rcases Q1 s.size 1 with h|h;exact ⟨0,λ h9=>absurd h9 (by omega)⟩;exact ⟨_,λ _=>py (show 0<s.data.toList.length from h)⟩
 refine .md [0,2] rfl (λ K L' w'=>Weak ([(17,(.bool (decide (((s.size<1)\/(32<s.size))\/((!(um b0.toNat))=true)))))]++K) L'/\Sat w [] w') ?_ ?_
 ·refine .region<| .a 1 rfl (.bo underlying9 rfl)<| .z 2 rfl<| .B 7 rfl (λ g1=> ?_) λ g1=> ?_
  ·refine .Z rfl ?_
   exact ⟨⟨If some (If Value.bool (by simp [g1])),rfl,rfl,trivial⟩,hs0⟩
  refine .a 1 rfl (.bo underlying9 rfl)<| .z 3 rfl<| .B 12 rfl (λ g2=> ?_) λ g2=> ?_
  ·refine .Z rfl ?_
   exact ⟨⟨If some (If Value.bool (by simp [g1,g2])),rfl,rfl,trivial⟩,hs0⟩
  refine .a 1 rfl (.eW underlying9 rfl rfl (hb0 (by omega)))<| .cp 0 hs0 (xA (b0.toNat) _) rfl λ _ s1=> .a 0 rfl (.cO rfl)<| .Z rfl ?_
  exact ⟨⟨If some (If Value.bool (by simp [g1,g2])),rfl,rfl,trivial⟩,s1⟩
 rintro L' w2 ⟨hw1,s2⟩
 refine .weaken _ hw1<| .ae rfl (λ c1=> ?_) λ c1=> ?_
 ·refine .Z rfl<| .aC rfl rfl ?_
  have hno:bC s=false:=by
   have h9:=c1
   rcases Q1 s.size 1 with h1|h1
   ·exact uq h1
   rcases Q1 32 s.size with h2|h2
   ·exact rW h2
   have h3:um b0.toNat=false:=by
    rcases h9 with h9|h9
    ·omega
    simpa using h9
   unfold bC;rw [pG (hb0 h1) h3,To]
  exact ⟨by rw [hno],s2⟩
 refine .skip<| .seq<| .seq ?_
 have hok1:1<=s.size/\s.size<=32/\um b0.toNat=true:=by have h9:=c1;simp only [not_or] at h9;exact ⟨by omega,by omega,by simpa using h9.2⟩
 have hb00:=hb0 hok1.1
 refine .U rfl<| .block<| .lq [0] rfl (α:=Nat) (λ k=>[(3,(.int .i64 k))]) (λ k w'=>Sat w [] w'/\(k<=s.size)/\(∀ (i:Nat) (d:UInt8),s.data.toList[i]? =some d->0<i->i<k->E2 d.toNat=true)) (λ k=>s.size-k) 1 ⟨s2,by omega,λ i d _ h1 h2=>absurd h2 (by omega)⟩ ?_
 rintro k w3 ⟨s3,hk,hall⟩
 refine .seq<| .h<| .a 2 rfl (.bo underlying9 rfl)<| .Z rfl<| .ae rfl (λ c2=> ?_) λ c2=> ?_
 ·refine .skip<| .seq<| .block<| .seq ?_
  obtain ⟨x,hx⟩:∃ x,s.data.toList[k]? =some x:=⟨_,py (show k<s.data.toList.length from c2)⟩
  refine .region<| .a 2 rfl (.eW underlying9 rfl rfl hx)<| .cp 0 s3 (IH (x.toNat) _) rfl λ _ s4=> .e rfl (.cO rfl)<| .nil<| .cond rfl (λ c3=> ?_) (λ c3=> ?_)
  ·refine .Z rfl<| .aC rfl rfl ?_
   exact ⟨by unfold bC;rw [ur hx (by simpa using c3),To],s4⟩
  refine .skip<| .U rfl ?_
  exact aT (k+1) ⟨s4,by omega,λ i d hd h1 h2=>by
   by_cases hik:i=k
   ·subst hik;rw [hx] at hd;cases hd;simpa using c3
   ·exact hall i d hd h1 (by omega)⟩
 refine .ao<| .Z rfl<| .aC rfl rfl ?_
 exact ⟨by unfold bC;rw [rX hb00 hok1.2.2 (λ i d hd hi=>hall i d hd hi (by have h8:=(AT.1 hd).1;have h7:s.data.toList.length=s.size:=rfl;omega)),PM hok1.2.1]<;>rfl,s3⟩
end Go.Proofs.YthffkcnbdehceaaGreat
