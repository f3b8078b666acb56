/-
 M01:plain facts on strings as units (layer 1):what 'range' over a string meets,valid strings,strings in reverse. No program in sight.
-/
import Derived.WalkKit
import Derived.Lib.DecodeN
set_option linter.unusedVariables false
set_option linter.unusedSimpArgs false
set_option linter.unusedSectionVars false
namespace Go.Kw
open Go.Lib
def gb (l:List UInt8) (k:Nat):Nat:=(l.getD k 0).toNat
def dec (l:List UInt8):Nat×Nat:=decodeN l.length (gb l 0) (gb l 1) (gb l 2) (gb l 3)
theorem mz (s:ByteArray) (i:Nat):(s.get! i).toNat=gb s.data.toList i:=by
 unfold gb
 show (s.data[i]!).toNat=_
 rw [List.getD_eq_getElem?_getD,Array.getElem?_toList]
 by_cases h:i<s.data.size
 ·rw [getElem!_pos s.data i h,Array.getElem?_eq_getElem h];rfl
 ·rw [getElem!_neg s.data i h,Array.getElem?_eq_none (by omega)];rfl
theorem mA (l:List UInt8) (i k:Nat):gb (l.drop i) k=gb l (i+k):=by
 unfold gb;simp [List.getD_eq_getElem?_getD]
theorem z8 (s:ByteArray) (i:Nat):Utf8.decode s i=dec (s.data.toList.drop i):=by
 rw [decode_at]
 unfold dec
 rw [mA,mA,mA,mA,mz,mz,mz,mz]
 have:s.size-i=(s.data.toList.drop i).length:=by rw [List.length_drop,Array.length_toList];rfl
 rw [this];rfl
theorem wG (n b0 b1 b2 b3:Nat):1<=(decodeN n b0 b1 b2 b3).2/\(decodeN n b0 b1 b2 b3).2<=4:=by
 unfold decodeN
 repeat' split
 all_goals exact ⟨by simp,by simp⟩
theorem za (n b0 b1 b2 b3:Nat) (hn:1<=n):(decodeN n b0 b1 b2 b3).2<=n:=by
 unfold decodeN
 repeat' split
 all_goals simp only [] at*
 all_goals omega
theorem Cd (n b0 b1 b2 b3:Nat):(decodeN n b0 b1 b2 b3).1<2097152:=by
 unfold decodeN
 repeat' split
 all_goals simp only []
 all_goals omega
theorem oC {n m b0 b1 b2 b3 c1 c2 c3:Nat} {p:Nat×Nat} (hp:decodeN n b0 b1 b2 b3=p) (hg:p.1≠65533\/p.2=3) (hm:p.2<=m) (e1:1<p.2->c1=b1) (e2:2<p.2->c2=b2) (e3:3<p.2->c3=b3):
  decodeN m b0 c1 c2 c3=p:=by
 unfold decodeN at hp
 split at hp
 ·subst hp;unfold decodeN;rename_i h;rw [if_pos h]
 rename_i h0
 split at hp
 ·rename_i h1
  split at hp
  ·rename_i h2
   subst hp
   have:=e1 (by simp);subst this
   unfold decodeN
   rw [if_neg h0,if_pos ⟨h1.1,by simp at hm;omega,h1.2.2⟩,if_pos h2]
  ·subst hp;simp at hg
 rename_i h1
 split at hp
 ·rename_i h2
  split at hp
  ·rename_i h3
   subst hp
   have:=e1 (by simp);subst this
   have:=e2 (by simp);subst this
   unfold decodeN
   rw [if_neg h0,if_neg (λ h=>by omega),if_pos ⟨h2.1,⟨by simp at hm;omega,h2.2.1.2⟩,⟨by simp at hm;omega,h2.2.2.2⟩⟩,if_pos h3]
  ·subst hp;simp at hg
 rename_i h2
 split at hp
 ·rename_i h3
  split at hp
  ·rename_i h4
   subst hp
   have:=e1 (by simp);subst this
   have:=e2 (by simp);subst this
   have:=e3 (by simp);subst this
   unfold decodeN
   rw [if_neg h0,if_neg (λ h=>by omega),if_neg (λ h=>by omega),if_pos ⟨h3.1,⟨by simp at hm;omega,h3.2.1.2⟩,⟨by simp at hm;omega,h3.2.2.1.2⟩,⟨by simp at hm;omega,h3.2.2.2.2⟩⟩,if_pos h4]
  ·subst hp;simp at hg
 ·subst hp;simp at hg
theorem bP (l:List UInt8):1<=(dec l).2:=(wG ..).1
theorem zb {l:List UInt8} (h:l≠[]):(dec l).2<=l.length:=za _ _ _ _ _ (List.length_pos_iff.2 h)
theorem LC (l:List UInt8):(dec l).1<2097152:=Cd ..
theorem ka {u t:List UInt8} {k:Nat} (h:k<u.length):gb (u++t) k=gb u k:=by
 unfold gb;simp [List.getD_eq_getElem?_getD,List.getElem?_append,h]
theorem po {l:List UInt8} {w k:Nat} (h:k<w):gb (l.take w) k=gb l k:=by
 unfold gb;simp [List.getD_eq_getElem?_getD,List.getElem?_take,h]
def LD (p:Nat×Nat):Prop:=p.1≠65533\/p.2=3
theorem zd {u t:List UInt8} (h:LD (dec u)) (hl:(dec u).2=u.length):dec (u++t)=dec u:=by
 have h1:=bP u
 have hl':(decodeN u.length (gb u 0) (gb u 1) (gb u 2) (gb u 3)).2=u.length:=hl
 unfold dec
 rw [ka (k:=0) (by omega)]
 exact oC (n:=u.length) (b1:=gb u 1) (b2:=gb u 2) (b3:=gb u 3) rfl h (by show (dec u).2<=_;rw [hl];simp) (λ hk=>ka (by rw [hl'] at hk;exact hk)) (λ hk=>ka (by rw [hl'] at hk;exact hk)) (λ hk=>ka (by rw [hl'] at hk;exact hk))
theorem Ed {l:List UInt8} (hne:l≠[]) (h:LD (dec l)):dec (l.take (dec l).2)=dec l:=by
 have h1:=bP l
 have h2:=zb hne
 have e0:gb (l.take (dec l).2) 0=gb l 0:=po (by omega)
 have hlen:(l.take (dec l).2).length=(dec l).2:=by rw [List.length_take];omega
 show decodeN _ _ _ _ _=_
 rw [e0,hlen]
 exact oC (n:=l.length) (b1:=gb l 1) (b2:=gb l 2) (b3:=gb l 3) rfl h (Nat.le_refl _) (λ hk=>po hk) (λ hk=>po hk) (λ hk=>po hk)
def kB (l:List UInt8):List (Nat×List UInt8):=
 if h:l=[] then [] else ((dec l).1,l.take (dec l).2)::kB (l.drop (dec l).2)
 termination_by l.length
 decreasing_by
 have:=bP l
 have:=List.length_pos_iff.2 h
 simp only [List.length_drop];omega
theorem mB:kB []=[]:=by rw [kB];simp
theorem kb {l:List UInt8} (h:l≠[]):kB l=((dec l).1,l.take (dec l).2)::kB (l.drop (dec l).2):=by rw [kB,dif_neg h]
theorem wH {M:List UInt8->Prop} (h0:M []) (h1:∀ l,l≠[]->M (l.drop (dec l).2)->M l):∀ l,M l:=λ l=>by
 generalize hn:l.length=n
 induction n using Nat.strongRecOn generalizing l with
 |_ n ih=>
  by_cases h:l=[]
  ·rw [h];exact h0
  ·have:=bP l
   have:=List.length_pos_iff.2 h
   exact h1 l h (ih _ (by simp only [List.length_drop];omega) _ rfl)
theorem oD (l:List UInt8):(kB l).flatMap (·.2)=l:=by
 induction l using wH with
 |h0=>rw [mB];rfl
 |h1 l h ih=>rw [kb h,List.flatMap_cons,ih];exact List.take_append_drop ..
def NG (p:Nat×List UInt8):Prop:=dec p.2=(p.1,p.2.length)/\LD (p.1,p.2.length)/\p.2≠[]
def okB (p:Nat×List UInt8):Prop:=p.1≠65533\/p.2.length=3
theorem Hj (l:List UInt8) (h:∀ p∈kB l,okB p):∀ p∈kB l,NG p:=by
 induction l using wH with
 |h0=>rw [mB];simp
 |h1 l hne ih=>
  rw [kb hne] at h⊢
  have h2:=zb hne
  have h1:=bP l
  have hlen:(l.take (dec l).2).length=(dec l).2:=by rw [List.length_take];omega
  intro p hp
  rcases List.mem_cons.1 hp with rfl|hp
  ·have hb:=h _ (List.mem_cons_self ..)
   have hb':LD (dec l):=by
    rcases hb with hb|hb
    ·exact .inl hb
    ·exact .inr (by rw [hlen] at hb;exact hb)
   refine ⟨?_,?_,?_⟩
   ·show dec (l.take (dec l).2)=((dec l).1,(l.take (dec l).2).length)
    rw [Ed hne hb',hlen]
   ·show LD ((dec l).1,(l.take (dec l).2).length)
    rw [hlen];exact hb'
   ·intro he
    have:=congrArg List.length he
    simp only [List.length_nil] at this
    have h3:(l.take (dec l).2).length=0:=this
    omega
  ·exact ih (λ q hq=>h q (List.mem_cons_of_mem _ hq)) p hp
theorem qG:∀ (ps:List (Nat×List UInt8)),(∀ p∈ps,NG p)->kB (ps.flatMap (·.2))=ps
 |[],_=>mB
 |p::r,h=>by
  obtain ⟨h1,h2,h3⟩:=h p (List.mem_cons_self ..)
  have ih:=qG r (λ q hq=>h q (List.mem_cons_of_mem _ hq))
  have hd:dec (p.2++r.flatMap (·.2))=(p.1,p.2.length):=by rw [zd (by rw [h1];exact h2) (by rw [h1]),h1]
  rw [List.flatMap_cons,kb (by simp [h3]),hd]
  simp only [List.take_left',List.drop_left']
  rw [ih]
def wI (l:List UInt8):List UInt8:=(kB l).reverse.flatMap (·.2)
def MQ (l:List UInt8):Prop:=∀ p∈kB l,okB p
theorem wJ {l:List UInt8} (h:MQ l):kB (wI l)=(kB l).reverse:=qG _ λ p hp=>Hj l h p (List.mem_reverse.1 hp)
theorem Ee {l m:List UInt8} (hl:MQ l) (hm:MQ m) (h:wI l=wI m):l=m:=by
 have h1:=wJ hl
 rw [h,wJ hm] at h1
 rw [<-oD l,<-oD m,List.reverse_inj.1 h1]
structure Un where
 r:Nat
 at_:Nat
 size:Nat
def cA (s:List UInt8) (i:Nat):List Un:=
 if h:i<s.length then ⟨(dec (s.drop i)).1,i,(dec (s.drop i)).2⟩::cA s (i+(dec (s.drop i)).2) else []
 termination_by s.length-i
 decreasing_by have:=bP (s.drop i);omega
def dF (s:List UInt8):List Un:=cA s 0
theorem fX {s:List UInt8} {i:Nat} (h:i<s.length):cA s i=⟨(dec (s.drop i)).1,i,(dec (s.drop i)).2⟩::cA s (i+(dec (s.drop i)).2):=by rw [cA,dif_pos h]
theorem eK {s:List UInt8} {i:Nat} (h:s.length<=i):cA s i=[]:=by rw [cA,dif_neg (by omega)]
theorem wK {s:List UInt8} {i:Nat} (h:i<s.length):i+(dec (s.drop i)).2<=s.length:=by
 have:=zb (l:=s.drop i) (λ he=>by have:=congrArg List.length he;simp at this;omega)
 rw [List.length_drop] at this;omega
theorem mC (s:List UInt8):∀ (k i:Nat),s.length-i<=k->(cA s i).map (λ u=>(u.r,(s.drop u.at_).take u.size))=kB (s.drop i)
 |k,i,hk=>by
  by_cases h:i<s.length
  ·have hne:s.drop i≠[]:=λ he=>by have:=congrArg List.length he;simp at this;omega
   have:=bP (s.drop i)
   cases k with
   |zero=>omega
   |succ k=>
    rw [fX h,kb hne,List.map_cons,mC s k _ (by omega),List.drop_drop]
  ·rw [eK (by omega),List.drop_eq_nil_of_le (by omega),mB];rfl
theorem wL (s:List UInt8):(dF s).map (λ u=>(u.r,(s.drop u.at_).take u.size))=kB s:=by
 have:=mC s s.length 0 (by omega)
 rwa [List.drop_zero] at this
theorem mD (s:List UInt8):∀ (k i:Nat),s.length-i<=k->∀ u∈cA s i,u.at_+u.size<=s.length/\1<=u.size/\u.r<2097152
 |k,i,hk,u,hu=>by
  by_cases h:i<s.length
  ·have:=bP (s.drop i)
   cases k with
   |zero=>omega
   |succ k=>
    rw [fX h] at hu
    rcases List.mem_cons.1 hu with rfl|hu
    ·exact ⟨wK h,bP _,LC _⟩
    ·exact mD s k _ (by omega) u hu
  ·rw [eK (by omega)] at hu;cases hu
theorem wM (s:List UInt8):∀ u∈dF s,u.at_+u.size<=s.length/\1<=u.size/\u.r<2097152:=mD s s.length 0 (by omega)
theorem jq (s:List UInt8):∀ (k i:Nat),s.length-i<=k->(cA s i).length<=s.length-i
 |k,i,hk=>by
  by_cases h:i<s.length
  ·have:=bP (s.drop i)
   cases k with
   |zero=>omega
   |succ k=>
    rw [fX h,List.length_cons]
    have:=jq s k (i+(dec (s.drop i)).2) (by omega)
    omega
  ·rw [eK (by omega)];simp
theorem fY (s:List UInt8):(dF s).length<=s.length:=by
 have:=jq s s.length 0 (by omega)
 exact Nat.le_trans this (Nat.sub_le ..)
def Un.ok (u:Un):Bool:=u.r !=65533||u.size==3
def cV (s:ByteArray):Bool:=(dF s.data.toList).all Un.ok
def uh (s:ByteArray):ByteArray:=⟨(wI s.data.toList).toArray⟩
theorem tf {s:ByteArray} (h:cV s=true):MQ s.data.toList:=by
 intro p hp
 rw [<-wL] at hp
 obtain ⟨u,hu,rfl⟩:=List.mem_map.1 hp
 have h1:=List.all_eq_true.1 h u hu
 have h2:=(wM _ u hu).1
 simp only [Un.ok,Bool.or_eq_true,bne_iff_ne,beq_iff_eq] at h1
 rcases h1 with h1|h1
 ·exact .inl h1
 ·refine .inr ?_
  show ((s.data.toList.drop u.at_).take u.size).length=3
  rw [List.length_take,List.length_drop,<-h1];omega
theorem Ef {s t:ByteArray} (hs:cV s=true) (ht:cV t=true) (h:uh s=uh t):s=t:=by
 have h1:wI s.data.toList=wI t.data.toList:=by
  have:=congrArg (λ b:ByteArray=>b.data.toList) h
  simpa [uh] using this
 have h2:=Ee (tf hs) (tf ht) h1
 obtain ⟨⟨x⟩⟩:=s;obtain ⟨⟨y⟩⟩:=t
 simp at h2;rw [h2]
end Go.Kw
