/-
 M01:plain facts on strings as units (layer 1):what 'range' over a string meets,valid strings,strings in reverse. No program in sight.
-/
import Derived.Test.YthffkcnbdehceaaGreatAl
import Derived.WalkKit
import Derived.Lib.DecodeN
set_option linter.all false
open Go.Proofs.YthffkcnbdehceaaGreat
open List
namespace Go.Kw
open Go.Lib
def gb(l:List UInt8)(k:Nat):Nat:=(l.getD k 0).toNat
def dec(l:List UInt8):Nat×Nat:=decodeN l.length (gb l 0) (gb l 1) (gb l 2) (gb l 3)
def nG(s:ByteArray)(i:Nat):(s.get! i).toNat=gb s.data.toList i:=by
 unfold gb;show(s.data[i]!).toNat=_;rw[KP,U2];by_cases h:i<s.data.size
 ·rw[getElem!_pos s.data i h,Array.getElem?_eq_getElem h];rfl
 ·rw[getElem!_neg s.data i h,V0 (by omega)];rfl
def nH(l:List UInt8)(i k:Nat):gb (l.drop i) k=gb l (i+k):=by
 unfold gb;simp[KP]
def Bm(s:ByteArray)(i:Nat):Utf8.decode s i=dec (s.data.toList.drop i):=by
 rw[decode_at];unfold dec;rw[nH,nH,nH,nH,nG,nG,nG,nG];have:s.size-i=(s.data.toList.drop i).length:=by rw[Ry,T4];rfl
 rw[this];rfl
def yK(n b0 b1 b2 b3:Nat):1<=(decodeN n b0 b1 b2 b3).2/\(decodeN n b0 b1 b2 b3).2<=4:=by
 unfold decodeN
 repeat' split
 all_goals exact⟨by simp,by simp⟩
def Bn(n b0 b1 b2 b3:Nat)(hn:1<=n):(decodeN n b0 b1 b2 b3).2<=n:=by
 unfold decodeN
 repeat' split
 all_goals simp only[]at*
 all_goals omega
def EN(n b0 b1 b2 b3:Nat):(decodeN n b0 b1 b2 b3).1<2097152:=by
 unfold decodeN
 repeat' split
 all_goals simp only[]
 all_goals omega
def pW{n m b0 b1 b2 b3 c1 c2 c3:Nat}{p:Nat×Nat}(hp:decodeN n b0 b1 b2 b3=p)(hg:p.1≠65533\/p.2=3)(hm:p.2<=m)(e1:1<p.2->c1=b1)(e2:2<p.2->c2=b2)(e3:3<p.2->c3=b3):
  decodeN m b0 c1 c2 c3=p:=by
 unfold decodeN at hp;split at hp
 ·subst hp;unfold decodeN;rename_i h;rw[No h]
 rename_i h0
 split at hp
 ·rename_i h1
  split at hp
  ·rename_i h2
   subst hp;have:=e1 (by simp);subst this;unfold decodeN;rw[M2 h0,No ⟨h1.1,by simp at hm;omega,h1.2.2⟩,No h2]
  ·subst hp;simp at hg
 rename_i h1
 split at hp
 ·rename_i h2
  split at hp
  ·rename_i h3
   subst hp;have:=e1 (by simp);subst this;have:=e2 (by simp);subst this;unfold decodeN;rw[M2 h0,M2 (λ h=>by omega),No ⟨h2.1,⟨by simp at hm;omega,h2.2.1.2⟩,⟨by simp at hm;omega,h2.2.2.2⟩⟩,No h3]
  ·subst hp;simp at hg
 rename_i h2
 split at hp
 ·rename_i h3
  split at hp
  ·rename_i h4
   subst hp;have:=e1 (by simp);subst this;have:=e2 (by simp);subst this;have:=e3 (by simp);subst this;unfold decodeN;rw[M2 h0,M2 (λ h=>by omega),M2 (λ h=>by omega),No ⟨h3.1,⟨by simp at hm;omega,h3.2.1.2⟩,⟨by simp at hm;omega,h3.2.2.1.2⟩,⟨by simp at hm;omega,h3.2.2.2.2⟩⟩,No h4]
  ·subst hp;simp at hg
 ·subst hp;simp at hg
def cy(l:List UInt8):1<=(dec l).2:=(yK ..).1
def Bo{l:List UInt8}(h:l≠[]):(dec l).2<=l.length:=Bn _ _ _ _ _ (Vr.2 h)
def Pb(l:List UInt8):(dec l).1<2097152:=EN ..
def lH{u t:List UInt8}{k:Nat}(h:k<u.length):gb (u++t) k=gb u k:=by
 unfold gb;simp[KP,getElem?_append,h]
def qE{l:List UInt8}{w k:Nat}(h:k<w):gb (l.take w) k=gb l k:=by
 unfold gb;simp[KP,SG,h]
def Pd(p:Nat×Nat):Prop:=p.1≠65533\/p.2=3
def Bp{u t:List UInt8}(h:Pd (dec u))(hl:(dec u).2=u.length):dec (u++t)=dec u:=by
 have h1:=cy u;have hl':(decodeN u.length (gb u 0) (gb u 1) (gb u 2) (gb u 3)).2=u.length:=hl;unfold dec;rw[lH (k:=0) (by omega)];exact pW (n:=u.length) (b1:=gb u 1) (b2:=gb u 2) (b3:=gb u 3) Y h (by show(dec u).2<=_;rw[hl];simp) (λ hk=>lH (by rw[hl']at hk;exact hk)) (λ hk=>lH (by rw[hl']at hk;exact hk)) (λ hk=>lH (by rw[hl']at hk;exact hk))
def Ha{l:List UInt8}(hne:l≠[])(h:Pd (dec l)):dec (l.take (dec l).2)=dec l:=by
 have h1:=cy l;have h2:=Bo hne;have e0:gb (l.take (dec l).2) 0=gb l 0:=qE (by omega);have hlen:(l.take (dec l).2).length=(dec l).2:=by rw[KW];omega
 show decodeN _ _ _ _ _=_;rw[e0,hlen];exact pW (n:=l.length) (b1:=gb l 1) (b2:=gb l 2) (b3:=gb l 3) Y h (KD _) (λ hk=>qE hk) (λ hk=>qE hk) (λ hk=>qE hk)
def mc(l:List UInt8):List (Nat×List UInt8):=
 if h:l=[]then[]else((dec l).1,l.take (dec l).2)::mc (l.drop (dec l).2)
 termination_by l.length
 decreasing_by
 have:=cy l;have:=Vr.2 h;simp only[Ry];omega
def nI:mc []=[]:=by rw[mc];simp
def lI{l:List UInt8}(h:l≠[]):mc l=((dec l).1,l.take (dec l).2)::mc (l.drop (dec l).2):=by rw[mc,dif_neg h]
def yL{M:List UInt8->Prop}(h0:M [])(h1:∀ l,l≠[]->M (l.drop (dec l).2)->M l):∀ l,M l:=λ l=>by
 generalize hn:l.length=n;induction n using Nat.strongRecOn generalizing l with
 |_ n ih=>
  by_cases h:l=[]
  ·rw[h];exact h0
  ·have:=cy l;have:=Vr.2 h;exact h1 l h (ih _ (by simp only[Ry];omega) _ Y)
def pX(l:List UInt8):(mc l).flatMap (·.2)=l:=by
 induction l using yL with
 |h0=>rw[nI];rfl
 |h1 l h ih=>rw[lI h,TK,ih];exact RY ..
def Rc(p:Nat×List UInt8):Prop:=dec p.2=(p.1,p.2.length)/\Pd (p.1,p.2.length)/\p.2≠[]
def okB(p:Nat×List UInt8):Prop:=p.1≠65533\/p.2.length=3
def KA(l:List UInt8)(h:∀ p∈mc l,okB p):∀ p∈mc l,Rc p:=by
 induction l using yL with
 |h0=>rw[nI];simp
 |h1 l hne ih=>
  rw[lI hne]at h⊢;have h2:=Bo hne;have h1:=cy l;have hlen:(l.take (dec l).2).length=(dec l).2:=by rw[KW];omega
  intro p hp;rcases Rx.1 hp with rfl|hp
  ·have hb:=h _ (SI ..);have hb':Pd (dec l):=by
    rcases hb with hb|hb
    ·exact .inl hb
    ·exact .inr (by rw[hlen]at hb;exact hb)
   refine⟨?_,?_,?_⟩
   ·show dec (l.take (dec l).2)=((dec l).1,(l.take (dec l).2).length);rw[Ha hne hb',hlen]
   ·show Pd ((dec l).1,(l.take (dec l).2).length);rw[hlen];exact hb'
   ·intro he;have:=If List.length he;simp only[Rp]at this;have h3:(l.take (dec l).2).length=0:=this;omega
  ·exact ih (λ q hq=>h q (Sl _ hq)) p hp
def rX:∀ (ps:List (Nat×List UInt8)),(∀ p∈ps,Rc p)->mc (ps.flatMap (·.2))=ps
 |[],_=>nI
 |p::r,h=>by
  obtain⟨h1,h2,h3⟩:=h p (SI ..);have ih:=rX r (λ q hq=>h q (Sl _ hq));have hd:dec (p.2++r.flatMap (·.2))=(p.1,p.2.length):=by rw[Bp (by rw[h1];exact h2) (by rw[h1]),h1]
  rw[TK,lI (by simp[h3]),hd];simp only[take_left',drop_left'];rw[ih]
def yM(l:List UInt8):List UInt8:=(mc l).reverse.flatMap (·.2)
def Qq(l:List UInt8):Prop:=∀ p∈mc l,okB p
def yN{l:List UInt8}(h:Qq l):mc (yM l)=(mc l).reverse:=rX _ λ p hp=>KA l h p (mem_reverse.1 hp)
def Hb{l m:List UInt8}(hl:Qq l)(hm:Qq m)(h:yM l=yM m):l=m:=by
 have h1:=yN hl;rw[h,yN hm]at h1;rw[<-pX l,<-pX m,reverse_inj.1 h1]
structure Un where
 r:Nat
 at_:Nat
 size:Nat
def cY(s:List UInt8)(i:Nat):List Un:=
 if h:i<s.length then⟨(dec (s.drop i)).1,i,(dec (s.drop i)).2⟩::cY s (i+(dec (s.drop i)).2)else[]
 termination_by s.length-i
 decreasing_by have:=cy (s.drop i);omega
def ec(s:List UInt8):List Un:=cY s 0
def gX{s:List UInt8}{i:Nat}(h:i<s.length):cY s i=⟨(dec (s.drop i)).1,i,(dec (s.drop i)).2⟩::cY s (i+(dec (s.drop i)).2):=by rw[cY,dif_pos h]
def fx{s:List UInt8}{i:Nat}(h:s.length<=i):cY s i=[]:=by rw[cY,dif_neg (by omega)]
def yO{s:List UInt8}{i:Nat}(h:i<s.length):i+(dec (s.drop i)).2<=s.length:=by
 have:=Bo (l:=s.drop i) (λ he=>by have:=If List.length he;simp at this;omega);rw[Ry]at this;omega
def nJ(s:List UInt8):∀ (k i:Nat),s.length-i<=k->(cY s i).map (λ u=>(u.r,(s.drop u.at_).take u.size))=mc (s.drop i)
 |k,i,hk=>by
  by_cases h:i<s.length
  ·have hne:s.drop i≠[]:=λ he=>by have:=If List.length he;simp at this;omega
   have:=cy (s.drop i);cases k with
   |zero=>omega
   |succ k=>
    rw[gX h,lI hne,Sg,nJ s k _ (by omega),drop_drop]
  ·rw[fx (by omega),drop_eq_nil_of_le (by omega),nI];rfl
def yP(s:List UInt8):(ec s).map (λ u=>(u.r,(s.drop u.at_).take u.size))=mc s:=by
 have:=nJ s s.length 0 (by omega);rwa[Tm]at this
def nK(s:List UInt8):∀ (k i:Nat),s.length-i<=k->∀ u∈cY s i,u.at_+u.size<=s.length/\1<=u.size/\u.r<2097152
 |k,i,hk,u,hu=>by
  by_cases h:i<s.length
  ·have:=cy (s.drop i);cases k with
   |zero=>omega
   |succ k=>
    rw[gX h]at hu;rcases Rx.1 hu with rfl|hu
    ·exact⟨yO h,cy _,Pb _⟩
    ·exact nK s k _ (by omega) u hu
  ·rw[fx (by omega)]at hu;cases hu
def yQ(s:List UInt8):∀ u∈ec s,u.at_+u.size<=s.length/\1<=u.size/\u.r<2097152:=nK s s.length 0 (by omega)
def kQ(s:List UInt8):∀ (k i:Nat),s.length-i<=k->(cY s i).length<=s.length-i
 |k,i,hk=>by
  by_cases h:i<s.length
  ·have:=cy (s.drop i);cases k with
   |zero=>omega
   |succ k=>
    rw[gX h,LW];have:=kQ s k (i+(dec (s.drop i)).2) (by omega);omega
  ·rw[fx (by omega)];simp
def gY(s:List UInt8):(ec s).length<=s.length:=by
 have:=kQ s s.length 0 (by omega);exact RV this (Nat.sub_le ..)
def Un.ok(u:Un):Bool:=u.r !=65533||u.size==3
def dD(s:ByteArray):Bool:=(ec s.data.toList).all Un.ok
def wP(s:ByteArray):ByteArray:=⟨(yM s.data.toList).toArray⟩
def ve{s:ByteArray}(h:dD s=true):Qq s.data.toList:=by
 intro p hp;rw[<-yP]at hp;obtain⟨u,hu,rfl⟩:=Sk.1 hp;have h1:=Sy.1 h u hu;have h2:=(yQ _ u hu).1;simp only[Un.ok,Bool.or_eq_true,bne_iff_ne,U0]at h1;rcases h1 with h1|h1
 ·exact .inl h1
 ·refine .inr ?_;show((s.data.toList.drop u.at_).take u.size).length=3;rw[KW,Ry,<-h1];omega
def Hc{s t:ByteArray}(hs:dD s=true)(ht:dD t=true)(h:wP s=wP t):s=t:=by
 have h1:yM s.data.toList=yM t.data.toList:=by
  have:=If (λ b:ByteArray=>b.data.toList) h;simpa[wP]using this
 have h2:=Hb (ve hs) (ve ht) h1;obtain⟨⟨x⟩⟩:=s;obtain⟨⟨y⟩⟩:=t;simp at h2;rw[h2]
