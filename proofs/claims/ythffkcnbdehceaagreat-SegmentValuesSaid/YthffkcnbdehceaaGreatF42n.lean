/-The walks of the functions of F42n,printed by our own program (kwgen.py) out of our descriptions (base.py). -/
import Derived.Test.YthffkcnbdehceaaGreatM13
import Derived.Test.YthffkcnbdehceaaGreatKm
import Derived.Test.YthffkcnbdehceaaGreatTab
set_option linter.all false
set_option maxRecDepth 100000
open List
open Go.Proofs.Tryz
namespace Go.Proofs.YthffkcnbdehceaaGreat
open Go.RowKit Go.Kw
def yq(c:Nat)(w:World):
  CallsV prog 174 [(.int .u8 c)] w λ r w'=>r= .bool (vD c)/\Sat w [] w':=by
 refine bY func174 Y λ hs0=>.Z Y<|.seq<|.bE 2 ((((65<=c)/\(c<=90))\/((97<=c)/\(c<=122)))\/(c=95)) ?_ ?_
 ·refine .z 3 Y<|.B 5 Y (λ g1=>?_) λ g1=>?_
  ·refine .z 4 Y<|.B 9 Y (λ g2=>?_) λ g2=>?_
   ·refine .M Y (by simp[g1,g2])
   refine .z 3 Y<|.B 12 Y (λ g3=>?_) λ g3=>?_
   ·refine .z 5 Y<|.B 17 Y (λ g4=>?_) λ g4=>?_
    ·refine .M Y (by simp[g1,g2,g3,g4])
    refine .M Y (by simp[g1,g2,g3,g4])
   refine .M Y (by simp[g1,g2,g3])
  refine .z 7 Y<|.B 12 Y (λ g5=>?_) λ g5=>?_
  ·refine .z 5 Y<|.B 17 Y (λ g6=>?_) λ g6=>?_
   ·refine .M Y (by simp[g1,g5,g6])
   refine .M Y (by simp[g1,g5,g6])
  refine .M Y (by simp[g1,g5])
 refine .aB Y Y ?_;exact⟨If Value.bool (by unfold vD;exact UU.2 (by omega)),hs0⟩
def GA(c:Nat)(w:World):
  CallsV prog 175 [(.int .u8 c)] w λ r w'=>r= .bool (Fx c)/\Sat w [] w':=by
 refine bY func175 Y λ hs0=>.Z Y<|.seq<|.md [0] Y (λ K L' w'=>Weak ([(2,(.bool (decide ((((vD c)=true)\/((48<=c)/\(c<=57)))\/(c=45)))))]++K) L'/\Sat w [] w') ?_ ?_
 ·refine .region<|.cp 1 hs0 (yq (c) _) Y λ _ s1=>.z 1 Y ?_;by_cases g1:(vD c)=true
  ·refine .Gt 5 Y (g1)<|.Z Y ?_;exact⟨⟨If some (If Value.bool (by simp[g1])),Y,trivial⟩,s1⟩
  refine .Gf 5 Y (by simpa using g1)<|.z 3 Y<|.B 8 Y (λ g2=>?_) λ g2=>?_
  ·refine .z 5 Y<|.B 13 Y (λ g3=>?_) λ g3=>?_
   ·refine .Z Y ?_;exact⟨⟨If some (If Value.bool (by simp[g1,g2,g3])),Y,trivial⟩,s1⟩
   refine .Z Y ?_;exact⟨⟨If some (If Value.bool (by simp[g1,g2,g3])),Y,trivial⟩,s1⟩
  refine .Z Y ?_;exact⟨⟨If some (If Value.bool (by simp[g1,g2])),Y,trivial⟩,s1⟩
 rintro L' w2 ⟨hw1,s2⟩;refine .weaken _ hw1<|.aB Y Y ?_;exact⟨If Value.bool (by unfold Fx;exact UU.2 ⟨λ h=>h.elim (λ h=>h.elim .inl (λ h=>.inr (.inl h))) (λ h=>.inr (.inr h)),λ h=>h.elim (λ h=>.inl (.inl h)) (λ h=>h.elim (λ h=>.inl (.inr h)) .inr)⟩),s2⟩
def yr(c:Nat)(w:World):
  CallsV prog 193 [(.int .u8 c)] w λ r w'=>r= .bool (vD c)/\Sat w [] w':=by
 refine bY func193 Y λ hs0=>.Z Y<|.seq<|.bE 2 (((c=95)\/((65<=c)/\(c<=90)))\/((97<=c)/\(c<=122))) ?_ ?_
 ·refine .z 3 Y<|.B 5 Y (λ g1=>?_) λ g1=>?_
  ·refine .M Y (by simp[g1])
  refine .z 3 Y<|.B 8 Y (λ g2=>?_) λ g2=>?_
  ·refine .z 5 Y<|.B 13 Y (λ g3=>?_) λ g3=>?_
   ·refine .M Y (by simp[g1,g2,g3])
   refine .z 3 Y<|.B 16 Y (λ g4=>?_) λ g4=>?_
   ·refine .M Y (by simp[g1,g2,g3,g4])
   refine .M Y (by simp[g1,g2,g3,g4])
  refine .z 8 Y<|.B 16 Y (λ g5=>?_) λ g5=>?_
  ·refine .M Y (by simp[g1,g2,g5])
  refine .M Y (by simp[g1,g2,g5])
 refine .aB Y Y ?_;exact⟨If Value.bool (by unfold vD;exact UU.2 (by omega)),hs0⟩
def Ki(c:Nat)(w:World):
  CallsV prog 194 [(.int .u8 c)] w λ r w'=>r= .bool (Fx c)/\Sat w [] w':=by
 refine bY func194 Y λ hs0=>.Z Y<|.seq<|.md [0] Y (λ K L' w'=>Weak ([(2,(.bool (decide ((((vD c)=true)\/((48<=c)/\(c<=57)))\/(c=45)))))]++K) L'/\Sat w [] w') ?_ ?_
 ·refine .region<|.cp 1 hs0 (yr (c) _) Y λ _ s1=>.z 1 Y ?_;by_cases g1:(vD c)=true
  ·refine .Gt 5 Y (g1)<|.Z Y ?_;exact⟨⟨If some (If Value.bool (by simp[g1])),Y,trivial⟩,s1⟩
  refine .Gf 5 Y (by simpa using g1)<|.z 3 Y<|.B 8 Y (λ g2=>?_) λ g2=>?_
  ·refine .z 5 Y<|.B 13 Y (λ g3=>?_) λ g3=>?_
   ·refine .Z Y ?_;exact⟨⟨If some (If Value.bool (by simp[g1,g2,g3])),Y,trivial⟩,s1⟩
   refine .Z Y ?_;exact⟨⟨If some (If Value.bool (by simp[g1,g2,g3])),Y,trivial⟩,s1⟩
  refine .Z Y ?_;exact⟨⟨If some (If Value.bool (by simp[g1,g2])),Y,trivial⟩,s1⟩
 rintro L' w2 ⟨hw1,s2⟩;refine .weaken _ hw1<|.aB Y Y ?_;exact⟨If Value.bool (by unfold Fx;exact UU.2 ⟨λ h=>h.elim (λ h=>h.elim .inl (λ h=>.inr (.inl h))) (λ h=>.inr (.inr h)),λ h=>h.elim (λ h=>.inl (.inl h)) (λ h=>h.elim (λ h=>.inl (.inr h)) .inr)⟩),s2⟩
def dW(s:ByteArray)(w:World):
  CallsV prog 112 [(.string s)] w λ r w'=>r= .bool (bF s)/\Sat w [] w':=by
 refine bY func112 Y λ hs0=>.Z Y<|.seq<|.seq ?_;obtain⟨b0,hb0⟩:∃ b0,1<=s.size->s.data.toList[0]? =some b0:=by rcases RG s.size 1 with h|h;exact⟨0,λ h9=>absurd h9 (by omega)⟩;exact⟨_,λ _=>py (show 0<s.data.toList.length from h)⟩
 refine .md [0,2] Y (λ K L' w'=>Weak ([(17,(.bool (decide (((s.size<1)\/(32<s.size))\/((!(vD b0.toNat))=true)))))]++K) L'/\Sat w [] w') ?_ ?_
 ·refine .region<|.a 1 Y (.bA underlying9 Y)<|.z 2 Y<|.B 7 Y (λ g1=>?_) λ g1=>?_
  ·refine .Z Y ?_;exact⟨⟨If some (If Value.bool (by simp[g1])),Y,Y,trivial⟩,hs0⟩
  refine .a 1 Y (.bA underlying9 Y)<|.z 3 Y<|.B 12 Y (λ g2=>?_) λ g2=>?_
  ·refine .Z Y ?_;exact⟨⟨If some (If Value.bool (by simp[g1,g2])),Y,Y,trivial⟩,hs0⟩
  refine .a 1 Y (.fg underlying9 Y Y (hb0 (by omega)))<|.cp 0 hs0 (yq (b0.toNat) _) Y λ _ s1=>.a 0 Y (.cJ Y)<|.Z Y ?_;exact⟨⟨If some (If Value.bool (by simp[g1,g2])),Y,Y,trivial⟩,s1⟩
 rintro L' w2 ⟨hw1,s2⟩;refine .weaken _ hw1<|.ae Y (λ c1=>?_) λ c1=>?_
 ·refine .Z Y<|.aB Y Y ?_;have hno:bF s=false:=by
   have h9:=c1;rcases RG s.size 1 with h1|h1
   ·exact vE h1
   rcases RG 32 s.size with h2|h2
   ·exact sK h2
   have h3:vD b0.toNat=false:=by
    rcases h9 with h9|h9
    ·omega
    simpa using h9
   unfold bF;rw[qh (hb0 h1) h3,Vd]
  exact⟨by rw[hno],s2⟩
 refine .skip<|.seq<|.seq ?_;have hok1:1<=s.size/\s.size<=32/\vD b0.toNat=true:=by have h9:=c1;simp only[not_or]at h9;exact⟨by omega,by omega,by simpa using h9.2⟩
 have hb00:=hb0 hok1.1;refine .region<|.a 1 Y (.bA underlying9 Y)<|.Z Y<|.block<|.lq [0,19] Y (α:=Nat) (λ k=>[(20,(.int .i64 k))]) (λ k w'=>Sat w [] w'/\(k<=s.size)/\(∀ (i:Nat) (d:UInt8),s.data.toList[i]? =some d->0<i->i<k->Fx d.toNat=true)) (λ k=>s.size-k) 0 ⟨s2,by omega,λ i d _ h1 h2=>absurd h2 (by omega)⟩ ?_;rintro k w3 ⟨s3,hk,hall⟩;refine .Z Y<|.seq<|.ae Y (λ c2=>?_) λ c2=>?_
 ·refine .skip<|.seq<|.block<|.Z Y<|.seq ?_;obtain⟨x,hx⟩:∃ x,s.data.toList[k]? =some x:=⟨_,py (show k<s.data.toList.length from c2)⟩;refine .region<|.a 2 Y (.fg underlying9 Y Y hx)<|.cp 0 s3 (GA (x.toNat) _) Y λ _ s4=>.e Y (.cJ Y)<|.nil<|.cond Y (λ c3=>?_) (λ c3=>?_)
  ·refine .Z Y<|.aB Y Y ?_;exact⟨by unfold bF;rw[vF hx (by simpa using c3),Vd],s4⟩
  refine .skip<|.U Y ?_;exact aR (k+1) ⟨s4,by omega,λ i d hd h1 h2=>by
   by_cases hik:i=k
   ·subst hik;rw[hx]at hd;cases hd;simpa using c3
   ·exact hall i d hd h1 (by omega)⟩
 refine .ar<|.Z Y<|.aB Y Y ?_;exact⟨by unfold bF;rw[sL hb00 hok1.2.2 (λ i d hd hi=>hall i d hd hi (by have h8:=(IN.1 hd).1;have h7:s.data.toList.length=s.size:=rfl;omega)),Rr hok1.2.1]<;>rfl,s3⟩
def e9(s:ByteArray)(w:World):
  CallsV prog 134 [(.string s)] w λ r w'=>r= .bool (bF s)/\Sat w [] w':=by
 refine bY func134 Y λ hs0=>.Z Y<|.seq<|.seq ?_;obtain⟨b0,hb0⟩:∃ b0,1<=s.size->s.data.toList[0]? =some b0:=by rcases RG s.size 1 with h|h;exact⟨0,λ h9=>absurd h9 (by omega)⟩;exact⟨_,λ _=>py (show 0<s.data.toList.length from h)⟩
 refine .md [0,2] Y (λ K L' w'=>Weak ([(17,(.bool (decide (((s.size<1)\/(32<s.size))\/((!(vD b0.toNat))=true)))))]++K) L'/\Sat w [] w') ?_ ?_
 ·refine .region<|.a 1 Y (.bA underlying9 Y)<|.z 2 Y<|.B 7 Y (λ g1=>?_) λ g1=>?_
  ·refine .Z Y ?_;exact⟨⟨If some (If Value.bool (by simp[g1])),Y,Y,trivial⟩,hs0⟩
  refine .a 1 Y (.bA underlying9 Y)<|.z 3 Y<|.B 12 Y (λ g2=>?_) λ g2=>?_
  ·refine .Z Y ?_;exact⟨⟨If some (If Value.bool (by simp[g1,g2])),Y,Y,trivial⟩,hs0⟩
  refine .a 1 Y (.fg underlying9 Y Y (hb0 (by omega)))<|.cp 0 hs0 (yr (b0.toNat) _) Y λ _ s1=>.a 0 Y (.cJ Y)<|.Z Y ?_;exact⟨⟨If some (If Value.bool (by simp[g1,g2])),Y,Y,trivial⟩,s1⟩
 rintro L' w2 ⟨hw1,s2⟩;refine .weaken _ hw1<|.ae Y (λ c1=>?_) λ c1=>?_
 ·refine .Z Y<|.aB Y Y ?_;have hno:bF s=false:=by
   have h9:=c1;rcases RG s.size 1 with h1|h1
   ·exact vE h1
   rcases RG 32 s.size with h2|h2
   ·exact sK h2
   have h3:vD b0.toNat=false:=by
    rcases h9 with h9|h9
    ·omega
    simpa using h9
   unfold bF;rw[qh (hb0 h1) h3,Vd]
  exact⟨by rw[hno],s2⟩
 refine .skip<|.seq<|.seq ?_;have hok1:1<=s.size/\s.size<=32/\vD b0.toNat=true:=by have h9:=c1;simp only[not_or]at h9;exact⟨by omega,by omega,by simpa using h9.2⟩
 have hb00:=hb0 hok1.1;refine .U Y<|.block<|.lq [0] Y (α:=Nat) (λ k=>[(3,(.int .i64 k))]) (λ k w'=>Sat w [] w'/\(k<=s.size)/\(∀ (i:Nat) (d:UInt8),s.data.toList[i]? =some d->0<i->i<k->Fx d.toNat=true)) (λ k=>s.size-k) 1 ⟨s2,by omega,λ i d _ h1 h2=>absurd h2 (by omega)⟩ ?_;rintro k w3 ⟨s3,hk,hall⟩;refine .seq<|.h<|.a 2 Y (.bA underlying9 Y)<|.Z Y<|.ae Y (λ c2=>?_) λ c2=>?_
 ·refine .skip<|.seq<|.block<|.seq ?_;obtain⟨x,hx⟩:∃ x,s.data.toList[k]? =some x:=⟨_,py (show k<s.data.toList.length from c2)⟩;refine .region<|.a 2 Y (.fg underlying9 Y Y hx)<|.cp 0 s3 (Ki (x.toNat) _) Y λ _ s4=>.e Y (.cJ Y)<|.nil<|.cond Y (λ c3=>?_) (λ c3=>?_)
  ·refine .Z Y<|.aB Y Y ?_;exact⟨by unfold bF;rw[vF hx (by simpa using c3),Vd],s4⟩
  refine .skip<|.U Y ?_;exact aR (k+1) ⟨s4,by omega,λ i d hd h1 h2=>by
   by_cases hik:i=k
   ·subst hik;rw[hx]at hd;cases hd;simpa using c3
   ·exact hall i d hd h1 (by omega)⟩
 refine .ar<|.Z Y<|.aB Y Y ?_;exact⟨by unfold bF;rw[sL hb00 hok1.2.2 (λ i d hd hi=>hall i d hd hi (by have h8:=(IN.1 hd).1;have h7:s.data.toList.length=s.size:=rfl;omega)),Rr hok1.2.1]<;>rfl,s3⟩
