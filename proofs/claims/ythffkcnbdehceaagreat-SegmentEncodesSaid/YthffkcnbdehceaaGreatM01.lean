/-
 M01:plain facts on strings as units (layer 1):what 'range' over a string meets,valid strings,strings in reverse. No program in sight.
-/
import Derived.Test.YthffkcnbdehceaaGreatAl
import Derived.WalkKit
import Derived.Lib.DecodeN
open Go.Proofs.YthffkcnbdehceaaGreat
open List
set_option linter.unusedVariables false
set_option linter.unusedSimpArgs false
set_option linter.unusedSectionVars false
namespace Go.Kw
open Go.Lib
def gb (l:List UInt8) (k:Nat):Nat:=(l.getD k 0).toNat
def dec (l:List UInt8):Nat×Nat:=decodeN l.length (gb l 0) (gb l 1) (gb l 2) (gb l 3)
theorem ng (s:ByteArray) (i:Nat):(s.get! i).toNat=gb s.data.toList i:=by
 unfold gb
 show (s.data[i]!).toNat=_
 rw [KW,Se]
 by_cases h:i<s.data.size
 ·rw [getElem!_pos s.data i h,Array.getElem?_eq_getElem h];rfl
 ·rw [getElem!_neg s.data i h,Tc (by omega)];rfl
theorem nh (l:List UInt8) (i k:Nat):gb (l.drop i) k=gb l (i+k):=by
 unfold gb;simp [KW]
theorem Ag (s:ByteArray) (i:Nat):Utf8.decode s i=dec (s.data.toList.drop i):=by
 rw [decode_at]
 unfold dec
 rw [nh,nh,nh,nh,ng,ng,ng,ng]
 have:s.size-i=(s.data.toList.drop i).length:=by rw [PK,QU];rfl
 rw [this];rfl
theorem xP (n b0 b1 b2 b3:Nat):1<=(decodeN n b0 b1 b2 b3).2/\(decodeN n b0 b1 b2 b3).2<=4:=by
 unfold decodeN
 repeat' split
 all_goals exact ⟨by simp,by simp⟩
theorem Ah (n b0 b1 b2 b3:Nat) (hn:1<=n):(decodeN n b0 b1 b2 b3).2<=n:=by
 unfold decodeN
 repeat' split
 all_goals simp only [] at*
 all_goals omega
theorem Dq (n b0 b1 b2 b3:Nat):(decodeN n b0 b1 b2 b3).1<2097152:=by
 unfold decodeN
 repeat' split
 all_goals simp only []
 all_goals omega
theorem pn {n m b0 b1 b2 b3 c1 c2 c3:Nat} {p:Nat×Nat} (hp:decodeN n b0 b1 b2 b3=p) (hg:p.1≠65533\/p.2=3) (hm:p.2<=m) (e1:1<p.2->c1=b1) (e2:2<p.2->c2=b2) (e3:3<p.2->c3=b3):
  decodeN m b0 c1 c2 c3=p:=by
 unfold decodeN at hp
 split at hp
 ·subst hp;unfold decodeN;rename_i h;rw [PI h]
 rename_i h0
 split at hp
 ·rename_i h1
  split at hp
  ·rename_i h2
   subst hp
   have:=e1 (by simp);subst this
   unfold decodeN
   rw [M2 h0,PI ⟨h1.1,by simp at hm;omega,h1.2.2⟩,PI h2]
  ·subst hp;simp at hg
 rename_i h1
 split at hp
 ·rename_i h2
  split at hp
  ·rename_i h3
   subst hp
   have:=e1 (by simp);subst this
   have:=e2 (by simp);subst this
   unfold decodeN
   rw [M2 h0,M2 (λ h=>by omega),PI ⟨h2.1,⟨by simp at hm;omega,h2.2.1.2⟩,⟨by simp at hm;omega,h2.2.2.2⟩⟩,PI h3]
  ·subst hp;simp at hg
 rename_i h2
 split at hp
 ·rename_i h3
  split at hp
  ·rename_i h4
   subst hp
   have:=e1 (by simp);subst this
   have:=e2 (by simp);subst this
   have:=e3 (by simp);subst this
   unfold decodeN
   rw [M2 h0,M2 (λ h=>by omega),M2 (λ h=>by omega),PI ⟨h3.1,⟨by simp at hm;omega,h3.2.1.2⟩,⟨by simp at hm;omega,h3.2.2.1.2⟩,⟨by simp at hm;omega,h3.2.2.2.2⟩⟩,PI h4]
  ·subst hp;simp at hg
 ·subst hp;simp at hg
theorem cw (l:List UInt8):1<=(dec l).2:=(xP ..).1
theorem Ai {l:List UInt8} (h:l≠[]):(dec l).2<=l.length:=Ah _ _ _ _ _ (T4.2 h)
theorem Nk (l:List UInt8):(dec l).1<2097152:=Dq ..
theorem kS {u t:List UInt8} {k:Nat} (h:k<u.length):gb (u++t) k=gb u k:=by
 unfold gb;simp [KW,getElem?_append,h]
theorem pY {l:List UInt8} {w k:Nat} (h:k<w):gb (l.take w) k=gb l k:=by
 unfold gb;simp [KW,QE,h]
def Nl (p:Nat×Nat):Prop:=p.1≠65533\/p.2=3
theorem Aj {u t:List UInt8} (h:Nl (dec u)) (hl:(dec u).2=u.length):dec (u++t)=dec u:=by
 have h1:=cw u
 have hl':(decodeN u.length (gb u 0) (gb u 1) (gb u 2) (gb u 3)).2=u.length:=hl
 unfold dec
 rw [kS (k:=0) (by omega)]
 exact pn (n:=u.length) (b1:=gb u 1) (b2:=gb u 2) (b3:=gb u 3) rfl h (by show (dec u).2<=_;rw [hl];simp) (λ hk=>kS (by rw [hl'] at hk;exact hk)) (λ hk=>kS (by rw [hl'] at hk;exact hk)) (λ hk=>kS (by rw [hl'] at hk;exact hk))
theorem FA {l:List UInt8} (hne:l≠[]) (h:Nl (dec l)):dec (l.take (dec l).2)=dec l:=by
 have h1:=cw l
 have h2:=Ai hne
 have e0:gb (l.take (dec l).2) 0=gb l 0:=pY (by omega)
 have hlen:(l.take (dec l).2).length=(dec l).2:=by rw [KV];omega
 show decodeN _ _ _ _ _=_
 rw [e0,hlen]
 exact pn (n:=l.length) (b1:=gb l 1) (b2:=gb l 2) (b3:=gb l 3) rfl h (KB _) (λ hk=>pY hk) (λ hk=>pY hk) (λ hk=>pY hk)
def lu (l:List UInt8):List (Nat×List UInt8):=
 if h:l=[] then [] else ((dec l).1,l.take (dec l).2)::lu (l.drop (dec l).2)
 termination_by l.length
 decreasing_by
 have:=cw l
 have:=T4.2 h
 simp only [PK];omega
theorem ni:lu []=[]:=by rw [lu];simp
theorem kT {l:List UInt8} (h:l≠[]):lu l=((dec l).1,l.take (dec l).2)::lu (l.drop (dec l).2):=by rw [lu,dif_neg h]
theorem xQ {M:List UInt8->Prop} (h0:M []) (h1:∀ l,l≠[]->M (l.drop (dec l).2)->M l):∀ l,M l:=λ l=>by
 generalize hn:l.length=n
 induction n using Nat.strongRecOn generalizing l with
 |_ n ih=>
  by_cases h:l=[]
  ·rw [h];exact h0
  ·have:=cw l
   have:=T4.2 h
   exact h1 l h (ih _ (by simp only [PK];omega) _ rfl)
theorem po (l:List UInt8):(lu l).flatMap (·.2)=l:=by
 induction l using xQ with
 |h0=>rw [ni];rfl
 |h1 l h ih=>rw [kT h,Rz,ih];exact Qc ..
def Pw (p:Nat×List UInt8):Prop:=dec p.2=(p.1,p.2.length)/\Nl (p.1,p.2.length)/\p.2≠[]
def okB (p:Nat×List UInt8):Prop:=p.1≠65533\/p.2.length=3
theorem J1 (l:List UInt8) (h:∀ p∈lu l,okB p):∀ p∈lu l,Pw p:=by
 induction l using xQ with
 |h0=>rw [ni];simp
 |h1 l hne ih=>
  rw [kT hne] at h⊢
  have h2:=Ai hne
  have h1:=cw l
  have hlen:(l.take (dec l).2).length=(dec l).2:=by rw [KV];omega
  intro p hp
  rcases PR.1 hp with rfl|hp
  ·have hb:=h _ (QD ..)
   have hb':Nl (dec l):=by
    rcases hb with hb|hb
    ·exact .inl hb
    ·exact .inr (by rw [hlen] at hb;exact hb)
   refine ⟨?_,?_,?_⟩
   ·show dec (l.take (dec l).2)=((dec l).1,(l.take (dec l).2).length)
    rw [FA hne hb',hlen]
   ·show Nl ((dec l).1,(l.take (dec l).2).length)
    rw [hlen];exact hb'
   ·intro he
    have:=If List.length he
    simp only [KY] at this
    have h3:(l.take (dec l).2).length=0:=this
    omega
  ·exact ih (λ q hq=>h q (Qr _ hq)) p hp
theorem re:∀ (ps:List (Nat×List UInt8)),(∀ p∈ps,Pw p)->lu (ps.flatMap (·.2))=ps
 |[],_=>ni
 |p::r,h=>by
  obtain ⟨h1,h2,h3⟩:=h p (QD ..)
  have ih:=re r (λ q hq=>h q (Qr _ hq))
  have hd:dec (p.2++r.flatMap (·.2))=(p.1,p.2.length):=by rw [Aj (by rw [h1];exact h2) (by rw [h1]),h1]
  rw [Rz,kT (by simp [h3]),hd]
  simp only [take_left',drop_left']
  rw [ih]
def xR (l:List UInt8):List UInt8:=(lu l).reverse.flatMap (·.2)
def OH (l:List UInt8):Prop:=∀ p∈lu l,okB p
theorem xS {l:List UInt8} (h:OH l):lu (xR l)=(lu l).reverse:=re _ λ p hp=>J1 l h p (mem_reverse.1 hp)
theorem FB {l m:List UInt8} (hl:OH l) (hm:OH m) (h:xR l=xR m):l=m:=by
 have h1:=xS hl
 rw [h,xS hm] at h1
 rw [<-po l,<-po m,reverse_inj.1 h1]
structure Un where
 r:Nat
 at_:Nat
 size:Nat
def cY (s:List UInt8) (i:Nat):List Un:=
 if h:i<s.length then ⟨(dec (s.drop i)).1,i,(dec (s.drop i)).2⟩::cY s (i+(dec (s.drop i)).2) else []
 termination_by s.length-i
 decreasing_by have:=cw (s.drop i);omega
def dR (s:List UInt8):List Un:=cY s 0
theorem gB {s:List UInt8} {i:Nat} (h:i<s.length):cY s i=⟨(dec (s.drop i)).1,i,(dec (s.drop i)).2⟩::cY s (i+(dec (s.drop i)).2):=by rw [cY,dif_pos h]
theorem fc {s:List UInt8} {i:Nat} (h:s.length<=i):cY s i=[]:=by rw [cY,dif_neg (by omega)]
theorem xT {s:List UInt8} {i:Nat} (h:i<s.length):i+(dec (s.drop i)).2<=s.length:=by
 have:=Ai (l:=s.drop i) (λ he=>by have:=If List.length he;simp at this;omega)
 rw [PK] at this;omega
theorem nj (s:List UInt8):∀ (k i:Nat),s.length-i<=k->(cY s i).map (λ u=>(u.r,(s.drop u.at_).take u.size))=lu (s.drop i)
 |k,i,hk=>by
  by_cases h:i<s.length
  ·have hne:s.drop i≠[]:=λ he=>by have:=If List.length he;simp at this;omega
   have:=cw (s.drop i)
   cases k with
   |zero=>omega
   |succ k=>
    rw [gB h,kT hne,Qm,nj s k _ (by omega),drop_drop]
  ·rw [fc (by omega),drop_eq_nil_of_le (by omega),ni];rfl
theorem xU (s:List UInt8):(dR s).map (λ u=>(u.r,(s.drop u.at_).take u.size))=lu s:=by
 have:=nj s s.length 0 (by omega)
 rwa [Ra] at this
theorem nk (s:List UInt8):∀ (k i:Nat),s.length-i<=k->∀ u∈cY s i,u.at_+u.size<=s.length/\1<=u.size/\u.r<2097152
 |k,i,hk,u,hu=>by
  by_cases h:i<s.length
  ·have:=cw (s.drop i)
   cases k with
   |zero=>omega
   |succ k=>
    rw [gB h] at hu
    rcases PR.1 hu with rfl|hu
    ·exact ⟨xT h,cw _,Nk _⟩
    ·exact nk s k _ (by omega) u hu
  ·rw [fc (by omega)] at hu;cases hu
theorem xV (s:List UInt8):∀ u∈dR s,u.at_+u.size<=s.length/\1<=u.size/\u.r<2097152:=nk s s.length 0 (by omega)
theorem k7 (s:List UInt8):∀ (k i:Nat),s.length-i<=k->(cY s i).length<=s.length-i
 |k,i,hk=>by
  by_cases h:i<s.length
  ·have:=cw (s.drop i)
   cases k with
   |zero=>omega
   |succ k=>
    rw [gB h,KP]
    have:=k7 s k (i+(dec (s.drop i)).2) (by omega)
    omega
  ·rw [fc (by omega)];simp
theorem gD (s:List UInt8):(dR s).length<=s.length:=by
 have:=k7 s s.length 0 (by omega)
 exact Q7 this (Nat.sub_le ..)
def Un.ok (u:Un):Bool:=u.r !=65533||u.size==3
def dw (s:ByteArray):Bool:=(dR s.data.toList).all Un.ok
def vz (s:ByteArray):ByteArray:=⟨(xR s.data.toList).toArray⟩
theorem tR {s:ByteArray} (h:dw s=true):OH s.data.toList:=by
 intro p hp
 rw [<-xU] at hp
 obtain ⟨u,hu,rfl⟩:=Qn.1 hp
 have h1:=Qt.1 h u hu
 have h2:=(xV _ u hu).1
 simp only [Un.ok,Bool.or_eq_true,bne_iff_ne,RZ] at h1
 rcases h1 with h1|h1
 ·exact .inl h1
 ·refine .inr ?_
  show ((s.data.toList.drop u.at_).take u.size).length=3
  rw [KV,PK,<-h1];omega
theorem FC {s t:ByteArray} (hs:dw s=true) (ht:dw t=true) (h:vz s=vz t):s=t:=by
 have h1:xR s.data.toList=xR t.data.toList:=by
  have:=If (λ b:ByteArray=>b.data.toList) h
  simpa [vz] using this
 have h2:=FB (tR hs) (tR ht) h1
 obtain ⟨⟨x⟩⟩:=s;obtain ⟨⟨y⟩⟩:=t
 simp at h2;rw [h2]
end Go.Kw
