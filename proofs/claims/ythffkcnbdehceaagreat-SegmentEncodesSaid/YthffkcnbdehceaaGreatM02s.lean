/-
 M02s:the references of the layers 2,3 and 15 compute what the program computes. No program in sight.
-/
import Derived.Test.YthffkcnbdehceaaGreatM03
open Go.Proofs.YthffkcnbdehceaaGreat
open List
set_option linter.unusedVariables false
set_option linter.unusedSimpArgs false
set_option linter.unusedSectionVars false
namespace Go.Kw
theorem xW {v:Nat} (hv:v<2^64) (h:128<=v):uv v=(v%128+128)::uv (v/128):=by
 rw [BM v hv h]
 have:=Ks (v%2^8) (by omega)
 have e:(v%2^8|||128)=v%128+128:=by
  obtain ⟨h1,h2,h3⟩:=this
  omega
 rw [e]
theorem kU {v:Nat} (h:v<128):uv v=[v]:=by rw [yg v h,Q5 (by omega)]
theorem rf (x w:Nat):∀ m,m<=w->aX (x%2^w) m=aX x m
 |0,_=>rfl
 |m+1,h=>by
  rw [aX,aX,rf x w m (by omega)]
  congr 2
  have e:2^w=2^m*2^(w-m):=by rw [<-Sx];congr 1;omega
  rw [e,Nat.mod_mul_right_div_self,Nat.mod_mod_of_dvd _ (Nat.pow_dvd_pow 2 (by omega))]
def rh (l:List Bool) (k:Nat):List Nat:=(List.range ((l.length+7)/8)).map (cA (l.take k))
theorem mo (l:List Bool) (k:Nat):(rh l k).length=(l.length+7)/8:=by simp [rh]
theorem FD (l:List Bool):rh l 0=List.replicate ((l.length+7)/8) 0:=by
 rw [rh,eq_replicate_iff]
 refine ⟨by simp,λ b hb=> ?_⟩
 obtain ⟨k,_,rfl⟩:=Qn.1 hb
 rw [TW];exact rL [] k (by simp)
theorem J2 (l:List Bool):rh l l.length=aH l:=by rw [rh,PW];rfl
theorem J3 {l:List Bool} {k:Nat} (h:k<l.length):(rh l k)[k/8]? =some (cA (l.take k) (k/8)):=by
 rw [rh,PX,Sc (by omega)];rfl
theorem Dr {l:List Bool} {k:Nat} (h:l[k]? =some false):rh l (k+1)=rh l k:=by
 have hk:=bQ h
 refine Rs λ j _=> ?_
 rw [ak h,fz]
 split
 ·simp [fL]
 ·rfl
theorem FE {l:List Bool} {k:Nat} (h:l[k]? =some true):rh l (k+1)=(rh l k).set (k/8) (cA (l.take k) (k/8)|||128/2^(k%8)):=by
 have hk:=bQ h
 have ht:(l.take k).length=k:=by simp;omega
 apply RM
 intro j
 rcases Q1 j ((l.length+7)/8) with hj|hj
 ·rw [R7,rh,PX,Sc hj,rh,PX,Sc hj]
  simp only [Rh,No,SZ]
  rw [ak h,fz,ht]
  by_cases e:k/8=j
  ·rw [PI e.symm,PI e,PI (by omega),e];simp [fL]
  ·rw [M2 (λ q=>e q.symm),M2 e]
 ·rw [Q3 (by simp [rh];omega),Q3 (by simp [rh];omega)]
theorem FF (a b:Nat):(a^^^b)%2=(a+b)%2:=by
 have h:=Nat.xor_mod_two_pow (a:=a) (b:=b) (n:=1)
 rw [Nat.pow_one] at h
 rw [h]
 rcases Ry a with ha|ha<;>rcases Ry b with hb|hb<;>(rw [ha,hb,Nat.add_mod,ha,hb];rfl)
theorem FG (a b:Nat):(a^^^b)/2=a/2^^^b/2:=by
 have:=Nat.xor_div_two (a:=a) (b:=b)
 exact this
theorem J4 (a b:Nat):st1 (a^^^b)=st1 a^^^st1 b:=by
 unfold st1
 have h1:=FF a b
 have h2:=FG a b
 simp only [Nat.pow_one]
 rw [h2,h1]
 rcases Ry a with ha|ha<;>rcases Ry b with hb|hb
 ·rw [M2 (by omega),M2 (by omega),M2 (by omega)]
 ·rw [PI (by omega),M2 (by omega),PI (by omega),SH]
 ·rw [PI (by omega),PI (by omega),M2 (by omega),SH,SH,Nat.xor_comm (b/2)]
 ·rw [M2 (by omega),PI (by omega),PI (by omega)]
  rw [SH,<-SH 2197175160,Nat.xor_comm 2197175160 (b/2),SH,Nat.xor_self,Nat.xor_zero]
theorem tS (a b:Nat):∀ n,cR (a^^^b) n=cR a n^^^cR b n
 |0=>rfl
 |n+1=>by rw [cR,cR,cR,tS a b n,J4]
theorem ri (q:Nat):∀ n m,cR (q*2^(n+m)) n=q*2^m
 |0,m=>by simp [cR]
 |n+1,m=>by
  rw [cR,show n+1+m=n+(m+1) by omega,ri q n (m+1),st1,QY,<-Rw]
  rw [M2 (by omega)];omega
theorem J5 (v:Nat):v=(v/2^4)*2^4^^^v%2^4:=by
 have h:=nC (v:=v%2^4) (x:=v/2^4) (k:=4) (RY _ (by decide))
 have:v%2^4^^^(v/2^4)*2^4=v%2^4+(v/2^4)*2^4:=by
  apply Nat.eq_of_testBit_eq
  intro i
  have e:=If (λ z=>Nat.testBit z i) h
  simp only [Nat.testBit_or] at e
  rw [Nat.testBit_xor,<-e]
  rcases Q1 i 4 with hi|hi
  ·rw [Nat.testBit_mul_two_pow]
   simp [show ¬ (4<=i) by omega]
  ·rw [Nat.testBit_lt_two_pow (x:=v%2^4) (i:=i) (RX (RY _ (by decide)) (Qg (by decide) hi))]
   simp
 rw [Nat.xor_comm,this];omega
theorem rj (v:Nat):cR v 4=Aq v:=by
 conv=>lhs;rw [J5 v]
 rw [tS,Aq]
 have:=ri (v/2^4) 4 0
 rw [R8,TC,QJ] at this
 rw [this];rfl
theorem tT (v a:Nat):∀ b,cR v (a+b)=cR (cR v a) b
 |0=>rfl
 |b+1=>by rw [<-Rn,cR,cR,tT v a b]
theorem xX (v c:Nat):cR (v^^^c) 8=LC v c:=by
 rw [show 8=4+4 from rfl,tT,rj,rj];rfl
theorem rm:∀ (f v:Nat),v<2^f->0<v->Lib.bitLenAux (f+1) v=Lib.bitLenAux f (v/2)+1:=λ f v _ h=>by
 rw [Lib.bitLenAux,M2 (by omega)];omega
theorem k8:∀ (f v:Nat),v<2^f->Lib.bitLenAux (f+1) v=Lib.bitLenAux f v
 |0,v,h=>by
  have:v=0:=by simpa using h
  subst this;rfl
 |f+1,v,h=>by
  rw [Lib.bitLenAux]
  conv=>rhs;rw [Lib.bitLenAux]
  split
  ·rfl
  ·rw [k8 f (v/2) (by rw [QY] at h;omega)]
theorem bitLen_half {v:Nat} (hv:v<2^64) (h:0<v):Lib.bitLen v=Lib.bitLen (v/2)+1:=by
 unfold Lib.bitLen
 rw [show (64:Nat)=63+1 from rfl,<-k8 (63+1) v hv,rm (63+1) v hv h]
theorem mq {v:Nat} (h:0<v):0<Lib.bitLen v:=by
 unfold Lib.bitLen
 rw [show (64:Nat)=63+1 from rfl,Lib.bitLenAux,M2 (by omega)];omega
theorem vA {v:Nat} (hv:v<2^64) (h:128<=v):Lib.bitLen v=Lib.bitLen (v/128)+7:=by
 rw [bitLen_half hv (by omega),bitLen_half (v:=v/2) (by omega) (by omega),bitLen_half (v:=v/2/2) (by omega) (by omega),bitLen_half (v:=v/2/2/2) (by omega) (by omega),
  bitLen_half (v:=v/2/2/2/2) (by omega) (by omega),bitLen_half (v:=v/2/2/2/2/2) (by omega) (by omega),bitLen_half (v:=v/2/2/2/2/2/2) (by omega) (by omega)]
 rw [show v/2/2/2/2/2/2/2=v/128 by omega]
theorem xY:∀ (n v:Nat),v<=n->v<2^64->(uv v).length=iq v
 |n,v,hn,hv=>by
  rcases Q1 v 128 with h|h
  ·rw [kU h]
   have:=bitLen_le (v:=v) (n:=7) (by simpa using h)
   unfold iq;simp;omega
  ·cases n with
   |zero=>omega
   |succ n=>
    rw [xW hv h,KP,xY n (v/128) (by omega) (by omega)]
    have h1:=vA hv h
    have h2:=mq (v:=v/128) (by omega)
    unfold iq;omega
theorem rn {v:Nat} (hv:v<2^64):(uv v).length=iq v:=xY v v (KB _) hv
theorem FH (w:Nat):∀ (l:List Nat) (_:l.length<2^63) (_:∀ x∈l,x<2^63),(fh w l).1=l.length/\(de w l).1=l.length/\(de w l).2.1.length=l.length*w/\(fh w l).2.1=(de w l).2.2.1.length/\(fh w l).2.2.1=(de w l).2.2.2.1/\(fh w l).2.2.2=(de w l).2.2.2.2/\(fh w l).2.2.1<=l.length:=by
 refine nQ (λ _ _=>by simp [fh,de]) λ l x ih=> ?_
 ·intro hn hb
  simp only [sp,KP,KY] at hn
  obtain ⟨h1,h2,h3,h4,h5,h6,h7⟩:=ih (by omega) (λ y hy=>hb y (R3 _ hy))
  have hx:=hb x (by simp)
  have hd:=QH x (2^w)
  rw [kB,eE]
  unfold kA dD
  split
  ·have u1:=rn (v:=l.length+1-(de w l).2.2.2.2) (by omega)
   have u2:=rn (v:=x/2^w) (by omega)
   simp only [sp,KP,KY,aF,u1,u2,h1,h2,h3,h4,h5,h6,Qx,RJ,Qa,true_and,and_true]
   rw [h5] at h7
   omega
  ·simp only [sp,KP,KY,aF,h1,h2,h3,h4,h5,h6,Qx,RJ,Qa,true_and,and_true]
   rw [h5] at h7
   omega
theorem kV {w:Nat} {l:List Nat} (hw:w<2^63) (hn:l.length<2^63) (hb:∀ x∈l,x<2^63):ir w l=(iu w l).length:=by
 obtain ⟨h1,h2,h3,h4,h5,h6,h7⟩:=FH w l hn hb
 unfold ir iu
 rw [h4,h5]
 simp only [sp,bc,h3]
 rw [rn (v:=l.length) (by omega),rn (v:=w) (by omega),rn (v:=(de w l).2.2.2.1) (by omega)]
 omega
end Go.Kw
namespace Go.Kw
open Go.RowKit
def Nn:Value->SV
 | .slice a n c=>⟨a,n,c⟩
 |_=>⟨none,0,0⟩
theorem xZ (l:List Nat):jM l 0=jt l.length 0 []++ee 0 (jK l (dq l.length)):=by simp [jM,jL]
theorem J6 (l:List Nat):jM l 1=jt l.length 1 (bA l)++ee 1 (oN l (dq l.length)):=by simp [jM,jL]
theorem y0 (n:Nat):jt n 0 []=uv n++[0]:=by rw [jt,kU (v:=0) (by decide)];simp
theorem J7 (n:Nat) (lens:List Nat):jt n 1 lens=uv n++[1]++uv lens.length++lens.map (· %2^8):=by rw [jt,kU (v:=1) (by decide)];simp
theorem vB {l:List Nat} {n k:Nat} (h:k<n):(jK l n)[k]? =some (bD (fP l k),0):=by simp [jK,h]
theorem Br {l:List Nat} {n k:Nat} (h:k<n):(oN l n)[k]? =some (aH (db (bA l) (fP l k)),(db (bA l) (fP l k)).length):=by simp [oN,h]
theorem Bs (l:List Nat) (n:Nat):(jK l n).length=n:=by simp [jK]
theorem Bt (l:List Nat) (n:Nat):(oN l n).length=n:=by simp [oN]
theorem y1 {l:List Nat} {ps:List (SV×List Nat)} (h:ps.map Prod.snd=(List.range (dq l.length)).map (fP l)) {k:Nat} {x:SV×List Nat} (hx:ps[k]? =some x):k<dq l.length/\x.2=fP l k:=by
 have hk:k<dq l.length:=by
  have h1:=(AT.1 hx).1
  have h2:=If List.length h
  simp at h2;omega
 refine ⟨hk,?_⟩
 have:=If (λ q=>q[k]?) h
 simp only [PX,hx,Rh,Sc hk] at this
 exact Qz this
theorem Bu (kind:Nat):∀ (ps:List (List Nat×Nat)) (B:Nat),(∀ p∈ps,p.1.length<=B)->(ee kind ps).length<=(10+B)*ps.length
 |[],B,_=>by simp [ee]
 |p::r,B,h=>by
  have ih:=Bu kind r B λ q hq=>h q (by simp [hq])
  have hp:=h p (by simp)
  have hu:=aD (if kind=0 then p.1.length else p.2)
  have e:ee kind (p::r)=mC kind p++ee kind r:=rfl
  rw [e,mC,sp,sp,KP,Nat.mul_add]
  omega
theorem np {l:List Nat} {k:Nat} (hl:OkN l) (hk:k<=1):(jM l k).length<=2000000:=by
 have hn:=hl.len
 have hnb:dq l.length<=64:=by unfold dq;omega
 have hs:(if k=1 then bA l else []).length<=1024:=by
  split
  ·rw [dr];exact hl.mx
  ·simp
 have hh:=ju l.length k (if k=1 then bA l else [])
 have hp:=Bu k (if k=1 then oN l (dq l.length) else jK l (dq l.length)) 20000 λ p hp=>by
  split at hp
  ·obtain ⟨i,_,rfl⟩:=Qn.1 hp
   have h1:=im (GoodLens.La (l9 l hl.mx)) (fP l i)
   have h2:=cM l i
   show (aH _).length<=_
   rw [bc];omega
  ·obtain ⟨i,_,rfl⟩:=Qn.1 hp
   have h2:=cM l i
   have:=jw (fP l i) (by omega)
   show (bD _).length<=_
   omega
 have hq:(if k=1 then oN l (dq l.length) else jK l (dq l.length)).length<=64:=by
  split
  ·rw [Bt];exact hnb
  ·rw [Bs];exact hnb
 have:=SL (10+20000) hq
 unfold jM jL
 rw [sp];omega
end Go.Kw
