/-The walks of the functions of F42n,printed by our own program (kwgen.py) out of our descriptions (base.py). -/
import Derived.Test.YtcmldpiicnobnaaGreatDoorKg
import Derived.Test.YtcmldpiicnobnaaGreatDoorTab
import Derived.Test.YtcmldpiicnobnaaGreatDoorShelf
set_option linter.all false
set_option maxRecDepth 100000
open List
open Go.Proofs.Tryz
namespace Go.Proofs.YtcmldpiicnobnaaGreatDoor
open Go.RowKit Go.Kw
def uE(c:Nat)(w:World):
  CallsV prog 120 [(.int .u8 c)] w λ r w'=>r= .bool (rK c)/\Sat w [] w':=by
 refine bQ func120 J λ hs0=>.Z J<|.seq<|.cu 2 ((((65<=c)/\(c<=90))\/((97<=c)/\(c<=122)))\/(c=95)) ?_ ?_
 ·refine .z 3 J<|.B 5 J (λ g1=>?_) λ g1=>?_
  ·refine .z 4 J<|.B 9 J (λ g2=>?_) λ g2=>?_
   ·refine .M J (by simp[g1,g2])
   refine .z 3 J<|.B 12 J (λ g3=>?_) λ g3=>?_
   ·refine .z 5 J<|.B 17 J (λ g4=>?_) λ g4=>?_
    ·refine .M J (by simp[g1,g2,g3,g4])
    refine .M J (by simp[g1,g2,g3,g4])
   refine .M J (by simp[g1,g2,g3])
  refine .z 7 J<|.B 12 J (λ g5=>?_) λ g5=>?_
  ·refine .z 5 J<|.B 17 J (λ g6=>?_) λ g6=>?_
   ·refine .M J (by simp[g1,g5,g6])
   refine .M J (by simp[g1,g5,g6])
  refine .M J (by simp[g1,g5])
 refine .aC J J ?_;exact⟨If Value.bool (by unfold rK;exact PN.2 (by omega)),hs0⟩
def CM(c:Nat)(w:World):
  CallsV prog 121 [(.int .u8 c)] w λ r w'=>r= .bool (yP c)/\Sat w [] w':=by
 refine bQ func121 J λ hs0=>.Z J<|.seq<|.md [0] J (λ K L' w'=>Weak ([(2,(.bool (decide ((((rK c)=true)\/((48<=c)/\(c<=57)))\/(c=45)))))]++K) L'/\Sat w [] w') ?_ ?_
 ·refine .region<|.cp 1 hs0 (uE (c) _) J λ _ s1=>.z 1 J ?_;by_cases g1:(rK c)=true
  ·refine .Gt 5 J (g1)<|.Z J ?_;exact⟨⟨If some (If Value.bool (by simp[g1])),J,trivial⟩,s1⟩
  refine .Gf 5 J (by simpa using g1)<|.z 3 J<|.B 8 J (λ g2=>?_) λ g2=>?_
  ·refine .z 5 J<|.B 13 J (λ g3=>?_) λ g3=>?_
   ·refine .Z J ?_;exact⟨⟨If some (If Value.bool (by simp[g1,g2,g3])),J,trivial⟩,s1⟩
   refine .Z J ?_;exact⟨⟨If some (If Value.bool (by simp[g1,g2,g3])),J,trivial⟩,s1⟩
  refine .Z J ?_;exact⟨⟨If some (If Value.bool (by simp[g1,g2])),J,trivial⟩,s1⟩
 rintro L' w2 ⟨hw1,s2⟩;refine .weaken _ hw1<|.aC J J ?_;exact⟨If Value.bool (by unfold yP;exact PN.2 ⟨λ h=>h.elim (λ h=>h.elim .inl (λ h=>.inr (.inl h))) (λ h=>.inr (.inr h)),λ h=>h.elim (λ h=>.inl (.inl h)) (λ h=>h.elim (λ h=>.inl (.inr h)) .inr)⟩),s2⟩
def uF(c:Nat)(w:World):
  CallsV prog 94 [(.int .u8 c)] w λ r w'=>r= .bool (rK c)/\Sat w [] w':=by
 refine bQ func94 J λ hs0=>.Z J<|.seq<|.cu 2 (((c=95)\/((65<=c)/\(c<=90)))\/((97<=c)/\(c<=122))) ?_ ?_
 ·refine .z 3 J<|.B 5 J (λ g1=>?_) λ g1=>?_
  ·refine .M J (by simp[g1])
  refine .z 3 J<|.B 8 J (λ g2=>?_) λ g2=>?_
  ·refine .z 5 J<|.B 13 J (λ g3=>?_) λ g3=>?_
   ·refine .M J (by simp[g1,g2,g3])
   refine .z 3 J<|.B 16 J (λ g4=>?_) λ g4=>?_
   ·refine .M J (by simp[g1,g2,g3,g4])
   refine .M J (by simp[g1,g2,g3,g4])
  refine .z 8 J<|.B 16 J (λ g5=>?_) λ g5=>?_
  ·refine .M J (by simp[g1,g2,g5])
  refine .M J (by simp[g1,g2,g5])
 refine .aC J J ?_;exact⟨If Value.bool (by unfold rK;exact PN.2 (by omega)),hs0⟩
def Gc(c:Nat)(w:World):
  CallsV prog 95 [(.int .u8 c)] w λ r w'=>r= .bool (yP c)/\Sat w [] w':=by
 refine bQ func95 J λ hs0=>.Z J<|.seq<|.md [0] J (λ K L' w'=>Weak ([(2,(.bool (decide ((((rK c)=true)\/((48<=c)/\(c<=57)))\/(c=45)))))]++K) L'/\Sat w [] w') ?_ ?_
 ·refine .region<|.cp 1 hs0 (uF (c) _) J λ _ s1=>.z 1 J ?_;by_cases g1:(rK c)=true
  ·refine .Gt 5 J (g1)<|.Z J ?_;exact⟨⟨If some (If Value.bool (by simp[g1])),J,trivial⟩,s1⟩
  refine .Gf 5 J (by simpa using g1)<|.z 3 J<|.B 8 J (λ g2=>?_) λ g2=>?_
  ·refine .z 5 J<|.B 13 J (λ g3=>?_) λ g3=>?_
   ·refine .Z J ?_;exact⟨⟨If some (If Value.bool (by simp[g1,g2,g3])),J,trivial⟩,s1⟩
   refine .Z J ?_;exact⟨⟨If some (If Value.bool (by simp[g1,g2,g3])),J,trivial⟩,s1⟩
  refine .Z J ?_;exact⟨⟨If some (If Value.bool (by simp[g1,g2])),J,trivial⟩,s1⟩
 rintro L' w2 ⟨hw1,s2⟩;refine .weaken _ hw1<|.aC J J ?_;exact⟨If Value.bool (by unfold yP;exact PN.2 ⟨λ h=>h.elim (λ h=>h.elim .inl (λ h=>.inr (.inl h))) (λ h=>.inr (.inr h)),λ h=>h.elim (λ h=>.inl (.inl h)) (λ h=>h.elim (λ h=>.inl (.inr h)) .inr)⟩),s2⟩
def o3(s:ByteArray)(w:World):
  CallsV prog 85 [(.string s)] w λ r w'=>r= .bool (aU s)/\Sat w [] w':=by
 refine bQ func85 J λ hs0=>.Z J<|.seq<|.seq ?_;obtain⟨b0,hb0⟩:∃ b0,1<=s.size->s.data.toList[0]? =some b0:=by rcases OI s.size 1 with h|h;exact⟨0,λ h9=>absurd h9 (by omega)⟩;exact⟨_,λ _=>py (show 0<s.data.toList.length from h)⟩
 refine .md [0,2] J (λ K L' w'=>Weak ([(17,(.bool (decide (((s.size<1)\/(32<s.size))\/((!(rK b0.toNat))=true)))))]++K) L'/\Sat w [] w') ?_ ?_
 ·refine .region<|.a 1 J (.bj underlying9 J)<|.z 2 J<|.B 7 J (λ g1=>?_) λ g1=>?_
  ·refine .Z J ?_;exact⟨⟨If some (If Value.bool (by simp[g1])),J,J,trivial⟩,hs0⟩
  refine .a 1 J (.bj underlying9 J)<|.z 3 J<|.B 12 J (λ g2=>?_) λ g2=>?_
  ·refine .Z J ?_;exact⟨⟨If some (If Value.bool (by simp[g1,g2])),J,J,trivial⟩,hs0⟩
  refine .a 1 J (.hG underlying9 J J (hb0 (by omega)))<|.cp 0 hs0 (uE (b0.toNat) _) J λ _ s1=>.a 0 J (.cO J)<|.Z J ?_;exact⟨⟨If some (If Value.bool (by simp[g1,g2])),J,J,trivial⟩,s1⟩
 rintro L' w2 ⟨hw1,s2⟩;refine .weaken _ hw1<|.a8 J (λ c1=>?_) λ c1=>?_
 ·refine .Z J<|.aC J J ?_;have hno:aU s=false:=by
   have h9:=c1;rcases OI s.size 1 with h1|h1
   ·exact rL h1
   rcases OI 32 s.size with h2|h2
   ·exact po h2
   have h3:rK b0.toNat=false:=by
    rcases h9 with h9|h9
    ·omega
    simpa using h9
   unfold aU;rw[o5 (hb0 h1) h3,RJ]
  exact⟨by rw[hno],s2⟩
 refine .skip<|.seq<|.seq ?_;have hok1:1<=s.size/\s.size<=32/\rK b0.toNat=true:=by have h9:=c1;simp only[not_or]at h9;exact⟨by omega,by omega,by simpa using h9.2⟩
 have hb00:=hb0 hok1.1;refine .region<|.a 1 J (.bj underlying9 J)<|.Z J<|.block<|.lq [0,19] J (α:=Nat) (λ k=>[(20,(.int .i64 k))]) (λ k w'=>Sat w [] w'/\(k<=s.size)/\(∀ (i:Nat) (d:UInt8),s.data.toList[i]? =some d->0<i->i<k->yP d.toNat=true)) (λ k=>s.size-k) 0 ⟨s2,by omega,λ i d _ h1 h2=>absurd h2 (by omega)⟩ ?_;rintro k w3 ⟨s3,hk,hall⟩;refine .Z J<|.seq<|.a8 J (λ c2=>?_) λ c2=>?_
 ·refine .skip<|.seq<|.block<|.Z J<|.seq ?_;obtain⟨x,hx⟩:∃ x,s.data.toList[k]? =some x:=⟨_,py (show k<s.data.toList.length from c2)⟩;refine .region<|.a 2 J (.hG underlying9 J J hx)<|.cp 0 s3 (CM (x.toNat) _) J λ _ s4=>.e J (.cO J)<|.nil<|.cond J (λ c3=>?_) (λ c3=>?_)
  ·refine .Z J<|.aC J J ?_;exact⟨by unfold aU;rw[rM hx (by simpa using c3),RJ],s4⟩
  refine .skip<|.U J ?_;exact ba (k+1) ⟨s4,by omega,λ i d hd h1 h2=>by
   by_cases hik:i=k
   ·subst hik;rw[hx]at hd;cases hd;simpa using c3
   ·exact hall i d hd h1 (by omega)⟩
 refine .ak<|.Z J<|.aC J J ?_;exact⟨by unfold aU;rw[pq hb00 hok1.2.2 (λ i d hd hi=>hall i d hd hi (by have h8:=(sp.1 hd).1;have h7:s.data.toList.length=s.size:=rfl;omega)),OL hok1.2.1]<;>rfl,s3⟩
def cP(s:ByteArray)(w:World):
  CallsV prog 54 [(.string s)] w λ r w'=>r= .bool (aU s)/\Sat w [] w':=by
 refine bQ func54 J λ hs0=>.Z J<|.seq<|.seq ?_;obtain⟨b0,hb0⟩:∃ b0,1<=s.size->s.data.toList[0]? =some b0:=by rcases OI s.size 1 with h|h;exact⟨0,λ h9=>absurd h9 (by omega)⟩;exact⟨_,λ _=>py (show 0<s.data.toList.length from h)⟩
 refine .md [0,2] J (λ K L' w'=>Weak ([(17,(.bool (decide (((s.size<1)\/(32<s.size))\/((!(rK b0.toNat))=true)))))]++K) L'/\Sat w [] w') ?_ ?_
 ·refine .region<|.a 1 J (.bj underlying9 J)<|.z 2 J<|.B 7 J (λ g1=>?_) λ g1=>?_
  ·refine .Z J ?_;exact⟨⟨If some (If Value.bool (by simp[g1])),J,J,trivial⟩,hs0⟩
  refine .a 1 J (.bj underlying9 J)<|.z 3 J<|.B 12 J (λ g2=>?_) λ g2=>?_
  ·refine .Z J ?_;exact⟨⟨If some (If Value.bool (by simp[g1,g2])),J,J,trivial⟩,hs0⟩
  refine .a 1 J (.hG underlying9 J J (hb0 (by omega)))<|.cp 0 hs0 (uF (b0.toNat) _) J λ _ s1=>.a 0 J (.cO J)<|.Z J ?_;exact⟨⟨If some (If Value.bool (by simp[g1,g2])),J,J,trivial⟩,s1⟩
 rintro L' w2 ⟨hw1,s2⟩;refine .weaken _ hw1<|.a8 J (λ c1=>?_) λ c1=>?_
 ·refine .Z J<|.aC J J ?_;have hno:aU s=false:=by
   have h9:=c1;rcases OI s.size 1 with h1|h1
   ·exact rL h1
   rcases OI 32 s.size with h2|h2
   ·exact po h2
   have h3:rK b0.toNat=false:=by
    rcases h9 with h9|h9
    ·omega
    simpa using h9
   unfold aU;rw[o5 (hb0 h1) h3,RJ]
  exact⟨by rw[hno],s2⟩
 refine .skip<|.seq<|.seq ?_;have hok1:1<=s.size/\s.size<=32/\rK b0.toNat=true:=by have h9:=c1;simp only[not_or]at h9;exact⟨by omega,by omega,by simpa using h9.2⟩
 have hb00:=hb0 hok1.1;refine .U J<|.block<|.lq [0] J (α:=Nat) (λ k=>[(3,(.int .i64 k))]) (λ k w'=>Sat w [] w'/\(k<=s.size)/\(∀ (i:Nat) (d:UInt8),s.data.toList[i]? =some d->0<i->i<k->yP d.toNat=true)) (λ k=>s.size-k) 1 ⟨s2,by omega,λ i d _ h1 h2=>absurd h2 (by omega)⟩ ?_;rintro k w3 ⟨s3,hk,hall⟩;refine .seq<|.h<|.a 2 J (.bj underlying9 J)<|.Z J<|.a8 J (λ c2=>?_) λ c2=>?_
 ·refine .skip<|.seq<|.block<|.seq ?_;obtain⟨x,hx⟩:∃ x,s.data.toList[k]? =some x:=⟨_,py (show k<s.data.toList.length from c2)⟩;refine .region<|.a 2 J (.hG underlying9 J J hx)<|.cp 0 s3 (Gc (x.toNat) _) J λ _ s4=>.e J (.cO J)<|.nil<|.cond J (λ c3=>?_) (λ c3=>?_)
  ·refine .Z J<|.aC J J ?_;exact⟨by unfold aU;rw[rM hx (by simpa using c3),RJ],s4⟩
  refine .skip<|.U J ?_;exact ba (k+1) ⟨s4,by omega,λ i d hd h1 h2=>by
   by_cases hik:i=k
   ·subst hik;rw[hx]at hd;cases hd;simpa using c3
   ·exact hall i d hd h1 (by omega)⟩
 refine .ak<|.Z J<|.aC J J ?_;exact⟨by unfold aU;rw[pq hb00 hok1.2.2 (λ i d hd hi=>hall i d hd hi (by have h8:=(sp.1 hd).1;have h7:s.data.toList.length=s.size:=rfl;omega)),OL hok1.2.1]<;>rfl,s3⟩
def AV(s:ByteArray)(w:World)(hn:s.size<=1000000):
  CallsV prog 210 [(.string s)] w λ r w'=>Sat w [cL r 292 iR ((fY s.data.toList).map qT)] w':=by
 refine bQ func210 J λ hs0=>.Z J<|.Z J<|.seq<|.seq ?_;have s1:=hs0.ao 292 (iR);refine .region<|.b 1 J (.FD underlying9 s1 J λ it1 _ s2=>?_);refine .nil<|.block<|.lq [0,8] J (α:=Nat×Value×List RU×List Un) (λ(i,v,l,done)=>[(3,v)]) (λ(i,v,l,done) w'=>Sat w [cL v 292 (iR) (l),Ed it1 s (i)] w'/\(i<=s.size)/\(l.length<=i)/\((i=0/\done=[]/\l=[])\/(∃ r a,a<i/\l=done.map jJ++[⟨r,a,0,false⟩]/\fY s.data.toList=done++⟨r,a,i-a⟩::dr s.data.toList i))) (λ(i,v,l,done)=>s.size-i) (0,(.slice none 0 0),[],[]) ⟨s2,IN _,KP _,.inl ⟨J,J,J⟩⟩ ?_;rintro⟨i,v,l,done⟩ w2 ⟨s3,hi,hll,hp⟩;refine .h<|.f J (.Ie (i:=1) s3 J J ?_ ?_)
 ·intro hnx1;refine .Z J<|.seq<|.az J (J)<|.ak<|.yr (λ L' w'=>∃ (v2:Value),Weak [(3,v2)] L'/\Sat w [cL v2 292 (iR) ((fY s.data.toList).map jJ)] w') ?_ ?_
  ·refine .seq ?_;rcases hp with⟨hi0,hd0,hl0⟩|⟨r,a,ha,hl,hu⟩
   ·have hlp:¬ 0<l.length:=by rw[hl0];simp
    have hdl:done.length=0:=by rw[hd0]<;>rfl
    refine .region<|.ln 1 (s3.aa 0 J) J<|.Z J<|.az J (KG hlp)<|.skip ?_;have s5:=s3.bL 0 J (show l=done.map jJ from by rw[hl0,hd0]<;>rfl);have s6:=s5.bL 0 J (show done.map jJ=(fY s.data.toList).map jJ from by rw[hd0];have h0:fY s.data.toList=[]:=zm (s:=s) (i:=0) (by omega);rw[h0]);exact⟨v,⟨J,trivial⟩,s6.pk [0]⟩
   have hx:=yO hl;obtain⟨x,hxd⟩:∃ x:RU,x=⟨r,a,0,false⟩:=⟨_,J⟩;rw[<-hxd]at hx;have hxa:x.at_=a:=by rw[hxd]
   have hlp:0<l.length:=by rw[hl];simp
   have hdl:done.length+1=l.length:=by rw[hl];simp
   refine .region<|.ln 1 (s3.aa 0 J) J<|.Z J<|.kz J (OL hlp)<|.region<|.ln 2 (s3.aa 0 J) J<|.a 2 J (.bj underlying9 J)<|.ln 2 (s3.aa 0 J) J<|.ix 1 (s3.aa 0 J) J<|.fl 0 (s3.aa 0 J) J<|.lf 0 (s3.aa 0 J) hx J<|.ix 1 (s3.aa 0 J) J<|.fl 0 (s3.aa 0 J) J<|.f J (.fI (E:=iR) 0 (⟨x.r,x.at_,(s.size-x.at_),x.ok⟩) dZ s3 J J J J hx J (by decide) λ _ s8 _=>?_);refine .nil ?_;have s9:=s8.bL 0 J (show l.set (l.length-1) (⟨x.r,x.at_,(s.size-x.at_),x.ok⟩)=(done++[(⟨r,a,s.size-a⟩:Un)]).map jJ from by rw[hxd];exact D7 _ hl);have s10:=s9.bL 0 J (show(done++[(⟨r,a,s.size-a⟩:Un)]).map jJ=(fY s.data.toList).map jJ from by rw[hu,show i=s.size by omega,zm (KP _)]);exact⟨v,⟨J,trivial⟩,s10.pk [0]⟩
  rintro L' w5 ⟨v2,hw1,s12⟩;refine .weaken _ hw1<|.seq<|.h<|.ln 1 (s12.aa 0 J) J<|.Z J<|.block ?_;have hul:=pD s.data.toList;rw[zl]at hul;have hml:((fY s.data.toList).map jJ).length=(fY s.data.toList).length:=OC ..;have s13:=s12.bL 0 J (show(fY s.data.toList).map jJ=((fY s.data.toList).take 0).map qT++((fY s.data.toList).drop 0).map jJ from by simp);refine .lq [57] J (α:=Nat×Value) (λ(k,v)=>[(3,v),(58,(.int .i64 k))]) (λ(k,v) w'=>Sat w [cL v 292 (iR) (((fY s.data.toList).take k).map qT++((fY s.data.toList).drop k).map jJ)] w'/\(k<=(fY s.data.toList).length)) (λ(k,v)=>(fY s.data.toList).length-k) (0,v2) ⟨s13,IN _⟩ ?_;rintro⟨k,v⟩ w6 ⟨s14,hk⟩;refine .Z J<|.seq<|.a8 J (λ c1=>?_) λ c1=>?_
  ·refine .skip<|.seq<|.block<|.Z J ?_;obtain⟨u,hu⟩:∃ u,(fY s.data.toList)[k]? =some u:=⟨_,py (by simp only[AT,OC,M2,OJ]at*;omega)⟩;refine .region<|.ix 4 (s14.aa 0 J) J (hj:=by simp only[AT,OC,M2,OJ]at*;omega)<|.fl 0 (s14.aa 0 J) J (hj:=by simp only[AT,OC,M2,OJ]at*;omega)<|.lf 0 (s14.aa 0 J) (td hu) J<|.z 2 J<|.B 69 J (λ g1=>?_) λ g1=>?_
   ·refine .ix 7 (s14.aa 0 J) J (hj:=by simp only[AT,OC,M2,OJ]at*;omega)<|.fl 0 (s14.aa 0 J) J (hj:=by simp only[AT,OC,M2,OJ]at*;omega)<|.f J (.fI (E:=iR) 0 (⟨u.r,u.at_,u.size,true⟩) Mq s14 J J J J (td hu) J (by decide) λ _ s15 _=>?_);have s15:=s15.nn;refine .nil ?_;have s16:=s15.bL 0 J (show(((fY s.data.toList).take k).map qT++((fY s.data.toList).drop k).map jJ).set k (⟨u.r,u.at_,u.size,true⟩)=((fY s.data.toList).take (k+1)).map qT++((fY s.data.toList).drop (k+1)).map jJ from yN hu (Gl g1));refine .U J ?_;exact⟨(k+1,v),(wk J),⟨s16,by simp only[OC]at*;omega⟩,(show((fY s.data.toList).length-(k+1))<((fY s.data.toList).length-k)from by simp only[OC]at*;omega)⟩
   refine .ix 2 (s14.aa 0 J) J (hj:=by simp only[AT,OC,M2,OJ]at*;omega)<|.fl 0 (s14.aa 0 J) J (hj:=by simp only[AT,OC,M2,OJ]at*;omega)<|.lf 0 (s14.aa 0 J) (td hu) J<|.ix 2 (s14.aa 0 J) J (hj:=by simp only[AT,OC,M2,OJ]at*;omega)<|.fl 0 (s14.aa 0 J) J (hj:=by simp only[AT,OC,M2,OJ]at*;omega)<|.f J (.fI (E:=iR) 0 (⟨u.r,u.at_,u.size,decide ((jJ u).size=3)⟩) Mq s14 J J J J (td hu) J (by decide) λ _ s17 _=>?_);have s17:=s17.nn;refine .nil ?_;have s18:=s17.bL 0 J (show(((fY s.data.toList).take k).map qT++((fY s.data.toList).drop k).map jJ).set k (⟨u.r,u.at_,u.size,decide ((jJ u).size=3)⟩)=((fY s.data.toList).take (k+1)).map qT++((fY s.data.toList).drop (k+1)).map jJ from yN hu (Gm g1));refine .U J ?_;exact⟨(k+1,v),(wk J),⟨s18,by simp only[OC]at*;omega⟩,(show((fY s.data.toList).length-(k+1))<((fY s.data.toList).length-k)from by simp only[OC]at*;omega)⟩
  refine .ak<|.Z J<|.aC J J ?_;have s19:=s14.bL 0 J (show((fY s.data.toList).take k).map qT++((fY s.data.toList).drop k).map jJ=(fY s.data.toList).map qT from by rw[show k=(fY s.data.toList).length by omega,P7,S0];simp);exact s19
 intro w3 hnx1 s4;refine .Z J<|.seq<|.kz J (J)<|.skip<|.block<|.Z J<|.seq<|.seq ?_;rcases hp with⟨hi0,hd0,hl0⟩|⟨r,a,ha,hl,hu⟩
 ·have hlp:¬ 0<l.length:=by rw[hl0];simp
  have hdl:done.length=0:=by rw[hd0]<;>rfl
  refine .region<|.ln 1 (s4.aa 0 J) J<|.Z J<|.az J (KG hlp)<|.skip ?_;have s20:=s4.bL 0 J (show l=done.map jJ from by rw[hl0,hd0]<;>rfl);refine .region<|.a 3 J (.build J0 J ⟨J,J,trivial⟩ J)<|.f J (.aO (iR) (⟨(dec (s.data.toList.drop i)).1,i,0,false⟩:RU) Fw (by decide) (by decide) s20 J λ v1 _ s21 _=>?_);have s21:=s21.nn;refine .ap 0 s21 0 (s21.aa 2 J) J (h1:=by simp only[AT,OC,KW,Oy]at*;omega) (h2:=by simp only[AT,OC,KW,Oy]at*;omega) λ v_2 _ s22 _=>?_;refine .Z J ?_;exact⟨(i+(dec (s.data.toList.drop i)).2,v_2,done.map jJ++[(⟨(dec (s.data.toList.drop i)).1,i,0,false⟩:RU)],done),(wk J),⟨s22.pk [0,1],jX hnx1,by have:=ff (s.data.toList.drop i);simp only[AT,OC,KW,Oy]at*;omega,.inr ⟨(dec (s.data.toList.drop i)).1,i,by have:=ff (s.data.toList.drop i);omega,J,by subst hd0;subst hi0;exact vR hnx1⟩⟩,(show(s.size-(i+(dec (s.data.toList.drop i)).2))<(s.size-i)from by have:=ff (s.data.toList.drop i);have:=jX hnx1;omega)⟩
 have hx:=yO hl;obtain⟨x,hxd⟩:∃ x:RU,x=⟨r,a,0,false⟩:=⟨_,J⟩;rw[<-hxd]at hx;have hxa:x.at_=a:=by rw[hxd]
 have hlp:0<l.length:=by rw[hl];simp
 have hdl:done.length+1=l.length:=by rw[hl];simp
 refine .region<|.ln 1 (s4.aa 0 J) J<|.Z J<|.kz J (OL hlp)<|.region<|.ln 2 (s4.aa 0 J) J<|.ln 4 (s4.aa 0 J) J<|.ix 1 (s4.aa 0 J) J<|.fl 0 (s4.aa 0 J) J<|.lf 0 (s4.aa 0 J) hx J<|.ix 1 (s4.aa 0 J) J<|.fl 0 (s4.aa 0 J) J<|.f J (.fI (E:=iR) 0 (⟨x.r,x.at_,(i-x.at_),x.ok⟩) dZ s4 J J J J hx J (by decide) λ _ s23 _=>?_);have s23:=s23.nn;refine .nil ?_;have s24:=s23.bL 0 J (show l.set (l.length-1) (⟨x.r,x.at_,(i-x.at_),x.ok⟩)=(done++[(⟨r,a,i-a⟩:Un)]).map jJ from by rw[hxd];exact D7 _ hl);refine .region<|.a 3 J (.build J0 J ⟨J,J,trivial⟩ J)<|.f J (.aO (iR) (⟨(dec (s.data.toList.drop i)).1,i,0,false⟩:RU) Fw (by decide) (by decide) s24 J λ v3 _ s25 _=>?_);refine .ap 0 s25 0 (s25.aa 2 J) J (h1:=by simp only[AT,OC,KW,Oy]at*;omega) (h2:=by simp only[AT,OC,KW,Oy]at*;omega) λ v_4 _ s26 _=>?_;refine .Z J ?_;exact⟨(i+(dec (s.data.toList.drop i)).2,v_4,(done++[(⟨r,a,i-a⟩:Un)]).map jJ++[(⟨(dec (s.data.toList.drop i)).1,i,0,false⟩:RU)],done++[⟨r,a,i-a⟩]),(wk J),⟨s26.pk [0,1],jX hnx1,by have:=ff (s.data.toList.drop i);simp only[AT,OC,KW,Oy]at*;omega,.inr ⟨(dec (s.data.toList.drop i)).1,i,by have:=ff (s.data.toList.drop i);omega,J,by rw[hu,vR hnx1];simp⟩⟩,(show(s.size-(i+(dec (s.data.toList.drop i)).2))<(s.size-i)from by have:=ff (s.data.toList.drop i);have:=jX hnx1;omega)⟩
def lE(s:ByteArray)(w:World)(hn:s.size<=1000000):
  CallsV prog 201 [(.string s)] w λ r w'=>r= .bool (gj s)/\Sat w [] w':=by
 refine bQ func201 J λ hs0=>.Z J<|.seq<|.h<|.c 1 (AV s _ (hn)) J λ r1 _ h_1=>?_;have s1:=hs0.au h_1;refine .ln 0 (s1.aa 0 J) J<|.Z J<|.block<|.lq [6,7] J (α:=Nat) (λ k=>[(8,(.int .i64 k))]) (λ k w'=>Sat w s1.L w'/\(k<=((fY s.data.toList).map qT).length)/\(((fY s.data.toList).take k).all Un.ok=true)) (λ k=>((fY s.data.toList).map qT).length-k) 0 ⟨s1,IN _,J⟩ ?_;rintro k w2 ⟨s2,hk,hall⟩;refine .Z J<|.seq<|.a8 J (λ c1=>?_) λ c1=>?_
 ·refine .skip<|.seq<|.block<|.seq ?_;have hml:((fY s.data.toList).map qT).length=(fY s.data.toList).length:=OC ..;obtain⟨u,hu⟩:∃ u,(fY s.data.toList)[k]? =some u:=⟨_,py (by omega)⟩;have hx:((fY s.data.toList).map qT)[k]? =some (qT u):=by rw[OT,hu]<;>rfl
  refine .region<|.ix 0 (s2.aa 0 J) J<|.lg 0 (s2.aa 0 J) hx J<|.al 0 s2 J λ b1 _ s3 _ _=>.sa 0 s3 1 J ((iR).one _) λ _ s4 _=>?_;have s4:=s4.nn;refine .nil<|.h<|.ld 1 s4 1 J<|.e J (.cO J)<|.nil<|.cond J (λ c2=>?_) (λ c2=>?_)
  ·refine .Z J<|.aC J J ?_;have hf:gj s=false:=by
    cases hq:gj s with
    |false=>rfl
    |true=>
     have h1:=Pn.1 hq u (OD hu);have h2:u.ok=false:=by simpa[qT]using c2
     rw[h1]at h2;cases h2
   rw[hf];exact⟨J,s4.pk []⟩
  refine .skip<|.region<|.e J (.Lb (b:=1) J J (by have h1:=pD s.data.toList;rw[zl]at h1;omega))<|.Z J ?_;exact ba (k+1) ⟨s4.pk [0],by omega,D6 hall hu (by simpa[qT]using c2)⟩
 refine .ak<|.Z J<|.aC J J ?_;have hml:((fY s.data.toList).map qT).length=(fY s.data.toList).length:=OC ..;have hf:gj s=true:=by rw[show k=(fY s.data.toList).length by omega,P7]at hall;exact hall
 rw[hf];exact⟨J,s2.pk []⟩
