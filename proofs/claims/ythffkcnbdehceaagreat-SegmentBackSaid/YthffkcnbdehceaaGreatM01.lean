/-
 M01:plain facts on strings as units (layer 1):what 'range' over a string meets,valid strings,strings in reverse. No program in sight.
-/
import Derived.WalkKit
import Derived.Lib.DecodeN
open List
set_option linter.unusedVariables false
set_option linter.unusedSimpArgs false
set_option linter.unusedSectionVars false
namespace Go.Kw
open Go.Lib
def gb (l:List UInt8) (k:Nat):Nat:=(l.getD k 0).toNat
def dec (l:List UInt8):Nat×Nat:=decodeN l.length (gb l 0) (gb l 1) (gb l 2) (gb l 3)
theorem nD (s:ByteArray) (i:Nat):(s.get! i).toNat=gb s.data.toList i:=by
 unfold gb
 show (s.data[i]!).toNat=_
 rw [getD_eq_getElem?_getD,Array.getElem?_toList]
 by_cases h:i<s.data.size
 ·rw [getElem!_pos s.data i h,Array.getElem?_eq_getElem h];rfl
 ·rw [getElem!_neg s.data i h,Array.getElem?_eq_none (by omega)];rfl
theorem nE (l:List UInt8) (i k:Nat):gb (l.drop i) k=gb l (i+k):=by
 unfold gb;simp [getD_eq_getElem?_getD]
theorem Bi (s:ByteArray) (i:Nat):Utf8.decode s i=dec (s.data.toList.drop i):=by
 rw [decode_at]
 unfold dec
 rw [nE,nE,nE,nE,nD,nD,nD,nD]
 have:s.size-i=(s.data.toList.drop i).length:=by rw [length_drop,Array.length_toList];rfl
 rw [this];rfl
theorem yR (n b0 b1 b2 b3:Nat):1<=(decodeN n b0 b1 b2 b3).2/\(decodeN n b0 b1 b2 b3).2<=4:=by
 unfold decodeN
 repeat' split
 all_goals exact ⟨by simp,by simp⟩
theorem Bj (n b0 b1 b2 b3:Nat) (hn:1<=n):(decodeN n b0 b1 b2 b3).2<=n:=by
 unfold decodeN
 repeat' split
 all_goals simp only [] at*
 all_goals omega
theorem Ec (n b0 b1 b2 b3:Nat):(decodeN n b0 b1 b2 b3).1<2097152:=by
 unfold decodeN
 repeat' split
 all_goals simp only []
 all_goals omega
theorem qi {n m b0 b1 b2 b3 c1 c2 c3:Nat} {p:Nat×Nat} (hp:decodeN n b0 b1 b2 b3=p) (hg:p.1≠65533\/p.2=3) (hm:p.2<=m) (e1:1<p.2->c1=b1) (e2:2<p.2->c2=b2) (e3:3<p.2->c3=b3):
  decodeN m b0 c1 c2 c3=p:=by
 unfold decodeN at hp
 split at hp
 ·subst hp;unfold decodeN;rename_i h;rw [if_pos h]
 rename_i h0
 split at hp
 ·rename_i h1
  split at hp
  ·rename_i h2
   subst hp
   have:=e1 (by simp);subst this
   unfold decodeN
   rw [if_neg h0,if_pos ⟨h1.1,by simp at hm;omega,h1.2.2⟩,if_pos h2]
  ·subst hp;simp at hg
 rename_i h1
 split at hp
 ·rename_i h2
  split at hp
  ·rename_i h3
   subst hp
   have:=e1 (by simp);subst this
   have:=e2 (by simp);subst this
   unfold decodeN
   rw [if_neg h0,if_neg (λ h=>by omega),if_pos ⟨h2.1,⟨by simp at hm;omega,h2.2.1.2⟩,⟨by simp at hm;omega,h2.2.2.2⟩⟩,if_pos h3]
  ·subst hp;simp at hg
 rename_i h2
 split at hp
 ·rename_i h3
  split at hp
  ·rename_i h4
   subst hp
   have:=e1 (by simp);subst this
   have:=e2 (by simp);subst this
   have:=e3 (by simp);subst this
   unfold decodeN
   rw [if_neg h0,if_neg (λ h=>by omega),if_neg (λ h=>by omega),if_pos ⟨h3.1,⟨by simp at hm;omega,h3.2.1.2⟩,⟨by simp at hm;omega,h3.2.2.1.2⟩,⟨by simp at hm;omega,h3.2.2.2.2⟩⟩,if_pos h4]
  ·subst hp;simp at hg
 ·subst hp;simp at hg
theorem bY (l:List UInt8):1<=(dec l).2:=(yR ..).1
theorem Bk {l:List UInt8} (h:l≠[]):(dec l).2<=l.length:=Bj _ _ _ _ _ (length_pos_iff.2 h)
theorem NY (l:List UInt8):(dec l).1<2097152:=Ec ..
theorem kI {u t:List UInt8} {k:Nat} (h:k<u.length):gb (u++t) k=gb u k:=by
 unfold gb;simp [getD_eq_getElem?_getD,getElem?_append,h]
theorem rE {l:List UInt8} {w k:Nat} (h:k<w):gb (l.take w) k=gb l k:=by
 unfold gb;simp [getD_eq_getElem?_getD,getElem?_take,h]
def NZ (p:Nat×Nat):Prop:=p.1≠65533\/p.2=3
theorem Bl {u t:List UInt8} (h:NZ (dec u)) (hl:(dec u).2=u.length):dec (u++t)=dec u:=by
 have h1:=bY u
 have hl':(decodeN u.length (gb u 0) (gb u 1) (gb u 2) (gb u 3)).2=u.length:=hl
 unfold dec
 rw [kI (k:=0) (by omega)]
 exact qi (n:=u.length) (b1:=gb u 1) (b2:=gb u 2) (b3:=gb u 3) rfl h (by show (dec u).2<=_;rw [hl];simp) (λ hk=>kI (by rw [hl'] at hk;exact hk)) (λ hk=>kI (by rw [hl'] at hk;exact hk)) (λ hk=>kI (by rw [hl'] at hk;exact hk))
theorem Gj {l:List UInt8} (hne:l≠[]) (h:NZ (dec l)):dec (l.take (dec l).2)=dec l:=by
 have h1:=bY l
 have h2:=Bk hne
 have e0:gb (l.take (dec l).2) 0=gb l 0:=rE (by omega)
 have hlen:(l.take (dec l).2).length=(dec l).2:=by rw [length_take];omega
 show decodeN _ _ _ _ _=_
 rw [e0,hlen]
 exact qi (n:=l.length) (b1:=gb l 1) (b2:=gb l 2) (b3:=gb l 3) rfl h (Nat.le_refl _) (λ hk=>rE hk) (λ hk=>rE hk) (λ hk=>rE hk)
def kZ (l:List UInt8):List (Nat×List UInt8):=
 if h:l=[] then [] else ((dec l).1,l.take (dec l).2)::kZ (l.drop (dec l).2)
 termination_by l.length
 decreasing_by
 have:=bY l
 have:=length_pos_iff.2 h
 simp only [length_drop];omega
theorem nF:kZ []=[]:=by rw [kZ];simp
theorem kJ {l:List UInt8} (h:l≠[]):kZ l=((dec l).1,l.take (dec l).2)::kZ (l.drop (dec l).2):=by rw [kZ,dif_neg h]
theorem yS {M:List UInt8->Prop} (h0:M []) (h1:∀ l,l≠[]->M (l.drop (dec l).2)->M l):∀ l,M l:=λ l=>by
 generalize hn:l.length=n
 induction n using Nat.strongRecOn generalizing l with
 |_ n ih=>
  by_cases h:l=[]
  ·rw [h];exact h0
  ·have:=bY l
   have:=length_pos_iff.2 h
   exact h1 l h (ih _ (by simp only [length_drop];omega) _ rfl)
theorem qj (l:List UInt8):(kZ l).flatMap (·.2)=l:=by
 induction l using yS with
 |h0=>rw [nF];rfl
 |h1 l h ih=>rw [kJ h,flatMap_cons,ih];exact take_append_drop ..
def PX (p:Nat×List UInt8):Prop:=dec p.2=(p.1,p.2.length)/\NZ (p.1,p.2.length)/\p.2≠[]
def okB (p:Nat×List UInt8):Prop:=p.1≠65533\/p.2.length=3
theorem Jr (l:List UInt8) (h:∀ p∈kZ l,okB p):∀ p∈kZ l,PX p:=by
 induction l using yS with
 |h0=>rw [nF];simp
 |h1 l hne ih=>
  rw [kJ hne] at h⊢
  have h2:=Bk hne
  have h1:=bY l
  have hlen:(l.take (dec l).2).length=(dec l).2:=by rw [length_take];omega
  intro p hp
  rcases mem_cons.1 hp with rfl|hp
  ·have hb:=h _ (mem_cons_self ..)
   have hb':NZ (dec l):=by
    rcases hb with hb|hb
    ·exact .inl hb
    ·exact .inr (by rw [hlen] at hb;exact hb)
   refine ⟨?_,?_,?_⟩
   ·show dec (l.take (dec l).2)=((dec l).1,(l.take (dec l).2).length)
    rw [Gj hne hb',hlen]
   ·show NZ ((dec l).1,(l.take (dec l).2).length)
    rw [hlen];exact hb'
   ·intro he
    have:=congrArg List.length he
    simp only [length_nil] at this
    have h3:(l.take (dec l).2).length=0:=this
    omega
  ·exact ih (λ q hq=>h q (mem_cons_of_mem _ hq)) p hp
theorem tD:∀ (ps:List (Nat×List UInt8)),(∀ p∈ps,PX p)->kZ (ps.flatMap (·.2))=ps
 |[],_=>nF
 |p::r,h=>by
  obtain ⟨h1,h2,h3⟩:=h p (mem_cons_self ..)
  have ih:=tD r (λ q hq=>h q (mem_cons_of_mem _ hq))
  have hd:dec (p.2++r.flatMap (·.2))=(p.1,p.2.length):=by rw [Bl (by rw [h1];exact h2) (by rw [h1]),h1]
  rw [flatMap_cons,kJ (by simp [h3]),hd]
  simp only [take_left',drop_left']
  rw [ih]
def yT (l:List UInt8):List UInt8:=(kZ l).reverse.flatMap (·.2)
def P9 (l:List UInt8):Prop:=∀ p∈kZ l,okB p
theorem yU {l:List UInt8} (h:P9 l):kZ (yT l)=(kZ l).reverse:=tD _ λ p hp=>Jr l h p (mem_reverse.1 hp)
theorem Gk {l m:List UInt8} (hl:P9 l) (hm:P9 m) (h:yT l=yT m):l=m:=by
 have h1:=yU hl
 rw [h,yU hm] at h1
 rw [<-qj l,<-qj m,reverse_inj.1 h1]
structure Un where
 r:Nat
 at_:Nat
 size:Nat
def cJ (s:List UInt8) (i:Nat):List Un:=
 if h:i<s.length then ⟨(dec (s.drop i)).1,i,(dec (s.drop i)).2⟩::cJ s (i+(dec (s.drop i)).2) else []
 termination_by s.length-i
 decreasing_by have:=bY (s.drop i);omega
def dO (s:List UInt8):List Un:=cJ s 0
theorem gx {s:List UInt8} {i:Nat} (h:i<s.length):cJ s i=⟨(dec (s.drop i)).1,i,(dec (s.drop i)).2⟩::cJ s (i+(dec (s.drop i)).2):=by rw [cJ,dif_pos h]
theorem fb {s:List UInt8} {i:Nat} (h:s.length<=i):cJ s i=[]:=by rw [cJ,dif_neg (by omega)]
theorem yV {s:List UInt8} {i:Nat} (h:i<s.length):i+(dec (s.drop i)).2<=s.length:=by
 have:=Bk (l:=s.drop i) (λ he=>by have:=congrArg List.length he;simp at this;omega)
 rw [length_drop] at this;omega
theorem nG (s:List UInt8):∀ (k i:Nat),s.length-i<=k->(cJ s i).map (λ u=>(u.r,(s.drop u.at_).take u.size))=kZ (s.drop i)
 |k,i,hk=>by
  by_cases h:i<s.length
  ·have hne:s.drop i≠[]:=λ he=>by have:=congrArg List.length he;simp at this;omega
   have:=bY (s.drop i)
   cases k with
   |zero=>omega
   |succ k=>
    rw [gx h,kJ hne,map_cons,nG s k _ (by omega),drop_drop]
  ·rw [fb (by omega),drop_eq_nil_of_le (by omega),nF];rfl
theorem yW (s:List UInt8):(dO s).map (λ u=>(u.r,(s.drop u.at_).take u.size))=kZ s:=by
 have:=nG s s.length 0 (by omega)
 rwa [drop_zero] at this
theorem nH (s:List UInt8):∀ (k i:Nat),s.length-i<=k->∀ u∈cJ s i,u.at_+u.size<=s.length/\1<=u.size/\u.r<2097152
 |k,i,hk,u,hu=>by
  by_cases h:i<s.length
  ·have:=bY (s.drop i)
   cases k with
   |zero=>omega
   |succ k=>
    rw [gx h] at hu
    rcases mem_cons.1 hu with rfl|hu
    ·exact ⟨yV h,bY _,NY _⟩
    ·exact nH s k _ (by omega) u hu
  ·rw [fb (by omega)] at hu;cases hu
theorem yX (s:List UInt8):∀ u∈dO s,u.at_+u.size<=s.length/\1<=u.size/\u.r<2097152:=nH s s.length 0 (by omega)
theorem jM (s:List UInt8):∀ (k i:Nat),s.length-i<=k->(cJ s i).length<=s.length-i
 |k,i,hk=>by
  by_cases h:i<s.length
  ·have:=bY (s.drop i)
   cases k with
   |zero=>omega
   |succ k=>
    rw [gx h,length_cons]
    have:=jM s k (i+(dec (s.drop i)).2) (by omega)
    omega
  ·rw [fb (by omega)];simp
theorem gy (s:List UInt8):(dO s).length<=s.length:=by
 have:=jM s s.length 0 (by omega)
 exact Nat.le_trans this (Nat.sub_le ..)
def Un.ok (u:Un):Bool:=u.r !=65533||u.size==3
def db (s:ByteArray):Bool:=(dO s.data.toList).all Un.ok
def xe (s:ByteArray):ByteArray:=⟨(yT s.data.toList).toArray⟩
theorem vS {s:ByteArray} (h:db s=true):P9 s.data.toList:=by
 intro p hp
 rw [<-yW] at hp
 obtain ⟨u,hu,rfl⟩:=mem_map.1 hp
 have h1:=all_eq_true.1 h u hu
 have h2:=(yX _ u hu).1
 simp only [Un.ok,Bool.or_eq_true,bne_iff_ne,beq_iff_eq] at h1
 rcases h1 with h1|h1
 ·exact .inl h1
 ·refine .inr ?_
  show ((s.data.toList.drop u.at_).take u.size).length=3
  rw [length_take,length_drop,<-h1];omega
theorem Gl {s t:ByteArray} (hs:db s=true) (ht:db t=true) (h:xe s=xe t):s=t:=by
 have h1:yT s.data.toList=yT t.data.toList:=by
  have:=congrArg (λ b:ByteArray=>b.data.toList) h
  simpa [xe] using this
 have h2:=Gk (vS hs) (vS ht) h1
 obtain ⟨⟨x⟩⟩:=s;obtain ⟨⟨y⟩⟩:=t
 simp at h2;rw [h2]
end Go.Kw
