/-
 M03:plain functions of layer 3 (checksum). No program in sight.
-/
import Derived.Test.YthffkcnbdehceaaGreatM06
import Derived.Lib.ItoaNum
import Derived.Test.YthffkcnbdehceaaGreatKm
open Go.Proofs.YthffkcnbdehceaaGreat
open List
set_option linter.unusedVariables false
set_option linter.unusedSimpArgs false
set_option linter.unusedSectionVars false
namespace Go.Kw
def st1 (v:Nat):Nat:=if v%2^1=1 then v/2^1^^^2197175160 else v/2^1
def cR (v:Nat):Nat->Nat
 |0=>v
 |n+1=>st1 (cR v n)
def rB (i:Nat):Nat:=cR i 4
def OU (v c:Nat):Nat:=v^^^c
def Aq (a:Nat):Nat:=a/2^4^^^rB (a%2^4)
def LC (v c:Nat):Nat:=Aq (Aq (OU v c))
def y7 (l:List Nat):Nat:=l.foldl LC 4294967295
theorem oC (l:List Nat) (c:Nat):y7 (l++[c])=LC (y7 l) c:=by simp [y7]
def iz (l:List Nat):Nat:=4294967295^^^y7 l
def nz (v:Nat):List Nat:=[v%2^8,v/2^8%2^8,v/2^16%2^8,v/2^24%2^8]
def aM (l:List Nat):List Nat:=l++nz (iz l)
theorem nA (v:Nat):∀ x∈nz v,x<256:=λ x hx=>by
 simp only [nz,PR,PU,Q9] at hx
 omega
theorem bL (l:List Nat):(aM l).length=l.length+4:=by simp [aM,nz]
theorem iQ {a b:Nat} (ha:a<4294967296) (hb:b<4294967296):a^^^b<4294967296:=by
 have:=Nat.xor_lt_two_pow (n:=32) (x:=a) (y:=b) (by omega) (by omega);omega
theorem rC {v:Nat} (h:v<4294967296):st1 v<4294967296:=by
 unfold st1
 split
 ·exact iQ (by omega) (by omega)
 ·omega
theorem rD {v:Nat} (h:v<4294967296):∀ n,cR v n<4294967296
 |0=>h
 |n+1=>rC (rD h n)
theorem vI {i:Nat} (h:i<16):rB i<4294967296:=rD (by omega) 4
theorem qe {a:Nat} (h:a<4294967296):Aq a<4294967296:=iQ (by omega) (vI (by omega))
theorem Jc:∀ (l:List Nat),(∀ x∈l,x<256)->y7 l<4294967296:=by
 refine nQ (λ _=>by simp [y7]) λ l c ih h=> ?_
 rw [oC]
 have h1:=ih λ x hx=>h x (by simp [hx])
 have h2:=h c (by simp)
 exact qe (qe (iQ h1 (by omega)))
theorem nB {l:List Nat} (h:∀ x∈l,x<256):iz l<4294967296:=iQ (by omega) (Jc l h)
def oD:List Nat:=(List.range 16).map rB
def oE (k:Nat):List Nat:=(List.range k).map rB++List.replicate (16-k) 0
theorem y8 {k:Nat} (h:k<=16):(oE k).length=16:=by simp [oE];omega
theorem FT {k:Nat} (h:k<16):(oE k).set k (rB k)=oE (k+1):=by
 unfold oE
 rw [Qq _ _ (by simp),show 16-k=(16-(k+1))+1 by omega,Sa,Ru]
 simp
theorem FU:oE 16=oD:=by simp [oE,oD]
theorem rE {i:Nat} (h:i<16):oD[i]? =some (rB i):=by simp [oD,h]
theorem ka (width:Nat) (l:List Nat):∀ x∈iu width l,x<256:=λ x hx=>by
 have he:∀ l:List Nat,∀ x∈(de width l).2.2.1,x<256:=by
  refine nQ (λ x hx=>by simp [de] at hx) λ l y ih x hx=> ?_
  rw [eE] at hx
  unfold dD at hx
  split at hx
  ·simp only [PT] at hx
   rcases hx with (hx|hx)|hx
   ·exact ih x hx
   ·exact dd _ x hx
   ·exact dd _ x hx
  ·exact ih x hx
 unfold iu at hx
 simp only [PT] at hx
 rcases hx with (((hx|hx)|hx)|hx)|hx
 ·exact dd _ x hx
 ·exact dd _ x hx
 ·exact dd _ x hx
 ·exact kj _ x hx
 ·exact he l x hx
theorem LD (kind:Nat) (ps:List (List Nat×Nat)) (h:∀ p∈ps,∀ x∈p.1,x<256):∀ x∈ee kind ps,x<256:=λ x hx=>by
 obtain ⟨p,hp,hx⟩:=Re.1 hx
 rcases PT.1 hx with hx|hx
 ·exact dd _ x hx
 ·exact h p hp x hx
theorem BF (n kind:Nat) (lens:List Nat) (ps:List (List Nat×Nat)) (h:∀ p∈ps,∀ x∈p.1,x<256):∀ x∈jL n kind lens ps,x<256:=λ x hx=>by
 unfold jL jt at hx
 simp only [PT] at hx
 rcases hx with ((hx|hx)|hx)|hx
 ·exact dd _ x hx
 ·exact dd _ x hx
 ·split at hx
  ·rcases PT.1 hx with hx|hx
   ·exact dd _ x hx
   ·obtain ⟨y,_,rfl⟩:=Qn.1 hx;omega
  ·cases hx
 ·exact LD kind ps h x hx
theorem BG (l:List Nat):∀ p∈lA l,∀ x∈p.1,x<256:=λ p hp x hx=>by
 unfold lA at hp
 split at hp
 ·obtain ⟨i,_,rfl⟩:=Qn.1 hp;exact kj _ x hx
 ·obtain ⟨i,_,rfl⟩:=Qn.1 hp;exact ka _ _ x hx
theorem kb {α:Type} {l:List α} {k:Nat} {x:α} (h:l[k]? =some x):l.drop k=x::l.drop (k+1):=by
 obtain ⟨hk,rfl⟩:=AT.1 h
 exact QL hk
def ze:Nat->Nat->List Nat->Nat×Nat×Nat
 |_,_,[]=>(0,0,10)
 |i,v,c::r=>if i=9/\c≠1 then (0,0,9) else if c<128 then (if c=0/\0<i then (0,0,9) else (v+c%2^7*2^(7*i),i+1,0)) else ze (i+1) (v+c%2^7*2^(7*i)) r
def fY (l:List Nat):Nat×Nat×Nat:=ze 0 0 l
theorem FV:∀ (l:List Nat) (i v:Nat),(ze i v l).2.1<=i+l.length
 |[],i,v=>by simp [ze]
 |c::r,i,v=>by
  have ih:=FV r (i+1) (v+c%2^7*2^(7*i))
  rw [ze]
  simp only [KP]
  split
  ·simp
  ·split
   ·split
    ·simp
    ·simp<;>omega
   ·omega
theorem oF (l:List Nat):(fY l).2.1<=l.length:=by have:=FV l 0 0;rw [Qa] at this;exact this
theorem nC {v x k:Nat} (h:v<2^k):v|||x*2^k=v+x*2^k:=by
 rw [Nat.or_comm,Tf,<-Nat.shiftLeft_eq,Nat.shiftLeft_add_eq_or_of_lt h]
theorem Jd {k:Nat} (h:k<=8):2^(7*k)<=2^56:=Qg (by decide) (by omega)
theorem tX {c k:Nat} (hk:k<=9) (h9:¬ (k=9/\c≠1)):c%2^7*2^(7*k)<2^64:=by
 by_cases h:k=9
 ·have:c=1:=QR λ hc=>h9 ⟨h,hc⟩
  subst h;subst this;decide
 ·have:=Jd (by omega:k<=8)
  have h2:c%2^7*2^(7*k)<=c%2^7*2^56:=SL _ this
  omega
theorem LF {v c k:Nat} (hv:v<2^(7*k)) (hk:k<=9) (h9:¬ (k=9/\c≠1)):v|||(c%2^7*2^(7*k)%2^64)=v+c%2^7*2^(7*k):=by
 rw [Q5 (tX hk h9),nC hv]
theorem Du {v c k:Nat} (hv:v<2^(7*k)):v+c%2^7*2^(7*k)<2^(7*(k+1)):=by
 have e:2^(7*(k+1))=2^7*2^(7*k):=by rw [<-Sx];congr 1;omega
 have h:c%2^7*2^(7*k)<=(2^7-1)*2^(7*k):=R0 _ (by omega)
 rw [Nat.sub_mul] at h
 have:2^(7*k)<=2^7*2^(7*k):=Nat.le_mul_of_pos_left _ (by decide)
 rw [e];omega
theorem Ks:∀ y,y<256->(y|||128)%2^7=y%2^7/\128<=(y|||128)/\(y|||128)<256:=by decide+kernel
theorem BH:∀ (f i v x:Nat) (rest:List Nat),x<128^(f+1)->i+f=9->x*2^(7*i)<2^64->(0<x\/i=0)->ze i v (nI f x++rest)=(v+x*2^(7*i),i+(nI f x).length,0)
 |0,i,v,x,rest,hx,hi,hb,h0=>by
  have hx1:x<128:=by simpa using hx
  have h9:i=9:=by omega
  subst h9
  have hx2:x<=1:=by omega
  have hx3:x=1:=by omega
  subst hx3
  simp [nI,ze]
 |f+1,i,v,x,rest,hx,hi,hb,h0=>by
  rw [nI]
  by_cases hs:x<128
  ·rw [PI hs]
   have e1:x%2^8=x:=Q5 (by omega)
   have e2:x%2^7=x:=Q5 (by omega)
   rw [e1,singleton_append,ze,M2 (by omega),PI hs,M2 (by omega),e2]
   simp
  ·rw [M2 hs,Rt]
   obtain ⟨h1,h2,h3⟩:=Ks (x%2^8) (by omega)
   rw [ze,M2 (by omega),M2 (Nat.not_lt.2 h2),h1]
   have hp:2^(7*(i+1))=2^7*2^(7*i):=by rw [<-Sx];congr 1;omega
   have hdiv:x/2^7*2^(7*(i+1))+x%2^7*2^(7*i)=x*2^(7*i):=by
    rw [hp,<-Rw,<-Qx]
    congr 1
    have:=TN x (2^7);omega
   have hx7:x<2^7*128^(f+1):=by rw [QY,Sy] at hx;exact hx
   have hb2:x/2^7*2^(7*(i+1))<2^64:=SR (by rw [<-hdiv];exact TF _ _) hb
   have ih:=BH f (i+1) (v+x%2^8%2^7*2^(7*i)) (x/2^7) rest (Nat.div_lt_of_lt_mul hx7) (by omega) hb2 (.inl (Nat.div_pos (by omega) (by decide)))
   rw [ih]
   have e8:x%2^8%2^7=x%2^7:=by omega
   rw [e8]
   simp only [KP,Q6,and_true]
   refine ⟨?_,by rw [Rn,Tf 1]⟩
   rw [<-hdiv,Rn,Tf (x%2^7*2^(7*i))]
theorem oG {x:Nat} (h:x<2^64) (rest:List Nat):fY (uv x++rest)=(x,(uv x).length,0):=by
 have:=BH 9 0 0 x rest (by have:(2:Nat)^64<=128^10:=(by decide);omega) rfl (by simpa using h) (.inr rfl)
 simpa [fY,uv] using this
def aW (ok:Bool) (l:List Nat) (lim:Nat):Nat×Bool×List Nat:=
 if ok=false\/(fY l).2.2≠0\/lim<(fY l).1 then (0,false,l) else ((fY l).1,true,l.drop (fY l).2.1)
theorem fZ {x lim:Nat} (h:x<2^64) (hl:x<=lim) (rest:List Nat):aW true (uv x++rest) lim=(x,true,rest):=by
 unfold aW
 rw [oG h,M2 (by simp;omega)]
 simp
theorem kX (ok:Bool) (l:List Nat) (lim:Nat):(aW ok l lim).1<=lim:=by
 unfold aW;split
 ·simp
 ·rename_i h;simp at h;simp;omega
theorem dK (ok:Bool) (l:List Nat) (lim:Nat):∀ x∈(aW ok l lim).2.2,x∈l:=by
 unfold aW;split
 ·exact λ x h=>h
 ·exact λ x h=>Qi h
theorem gG (ok:Bool) (l:List Nat) (lim:Nat):(aW ok l lim).2.2.length<=l.length:=by
 unfold aW;split
 ·exact KB _
 ·simp
def rb (l:List Nat) (i:Nat):Nat:=l.getD (i/8) 0/2^(7-i%8)%2
theorem Kt (l:List Nat) (i:Nat):rb l i<2:=RY _ (by decide)
def sL (l:List Nat) (a:Nat):Nat->Nat
 |0=>0
 |m+1=>2*sL l a m+rb l (a+m)
theorem rF (l:List Nat) (a:Nat):∀ m,sL l a m<2^m
 |0=>by simp [sL]
 |m+1=>by have:=rF l a m;have:=Kt l (a+m);rw [sL,QY];omega
theorem LG {v b:Nat} (hb:b<2) (hv:v<2^63):v*2^1%2^64|||b=2*v+b:=by
 rw [Q5 (by omega),Nat.or_comm,nC (k:=1) (by omega)];omega
theorem y9:∀ (b0 b1 b2 b3 b4 b5 b6 b7:Bool) (j:Fin 8),(fL b0 128|||(fL b1 64|||(fL b2 32|||(fL b3 16|||(fL b4 8|||(fL b5 4|||(fL b6 2|||fL b7 1)))))))/2^(7-j.val)%2=([b0,b1,b2,b3,b4,b5,b6,b7].getD j.val false).toNat:=by decide+kernel
theorem Ar (l:List Bool) (k j:Nat) (hj:j<8):cA l k/2^(7-j)%2=(cI l (8*k+j)).toNat:=by
 have h:=y9 (cI l (8*k)) (cI l (8*k+1)) (cI l (8*k+2)) (cI l (8*k+3)) (cI l (8*k+4)) (cI l (8*k+5)) (cI l (8*k+6)) (cI l (8*k+7)) ⟨j,hj⟩
 unfold cA
 refine h.trans (If Bool.toNat ?_)
 match j,hj with
 |0,_=>rfl
 |1,_=>rfl
 |2,_=>rfl
 |3,_=>rfl
 |4,_=>rfl
 |5,_=>rfl
 |6,_=>rfl
 |7,_=>rfl
theorem BI {l:List Bool} {i:Nat} (h:i<l.length):rb (aH l) i=(cI l i).toNat:=by
 have hg:(aH l)[i/8]? =some (cA l (i/8)):=by
  unfold aH;rw [PX,Sc (by omega)];rfl
 have hd:(aH l).getD (i/8) 0=cA l (i/8):=by rw [KW,hg];rfl
 rw [rb,hd,Ar l _ _ (RY _ (by decide))]
 congr 2;omega
theorem nD (x:Nat):∀ (m k:Nat),k<m->(aX x m)[k]? =some (decide (x/2^(m-1-k)%2=1))
 |0,k,h=>by omega
 |m+1,0,_=>by simp [aX]
 |m+1,k+1,h=>by
  have:=nD x m k (by omega)
  rw [aX,T5,this,show m+1-1-(k+1)=m-1-k by omega]
theorem vJ (A B:List Bool) (x m:Nat) (hx:x<2^m):∀ k,k<=m->sL (aH (A++aX x m++B)) A.length k=x/2^(m-k)
 |0,_=>by rw [sL,Sz,T9 hx]
 |k+1,hk=>by
  have ih:=vJ A B x m hx k (by omega)
  have hl:(A++aX x m++B).length=A.length+m+B.length:=by simp [aF,Rn]
  have hbit:cI (A++aX x m++B) (A.length+k)=decide (x/2^(m-1-k)%2=1):=by
   rw [cI,KW,LW,Qb (by omega),QG,Q4 (by rw [aF];omega),nD x m k (by omega)];rfl
  rw [sL,ih,BI (by omega),hbit]
  have e:m-k=(m-(k+1))+1:=by omega
  have e2:m-1-k=m-(k+1):=by omega
  rw [e2,e,QY,<-Nat.div_div_eq_div_mul]
  generalize x/2^(m-(k+1))=q
  by_cases h:q%2=1
  ·rw [PM h];simp;omega
  ·rw [IN h];simp;omega
theorem dz {v:Nat} (h0:0<v) (h:v<2^64):1<=Lib.bitLen v/\2^(Lib.bitLen v-1)<=v/\v<2^Lib.bitLen v:=Lib.bitLenAux_bounds 64 v h (by omega)
def gH (v:Nat):List Bool:=aX 0 (Lib.bitLen v-1)++aX v (Lib.bitLen v)
def fe (v:Nat):List Bool:=gH (Lib.bitLen v)++aX v (Lib.bitLen v-1)
theorem kc (v:Nat):(gH v).length=Lib.bitLen v-1+Lib.bitLen v:=by simp [gH,aF]
theorem nE (v:Nat):(fe v).length=(Lib.bitLen (Lib.bitLen v)-1+Lib.bitLen (Lib.bitLen v))+(Lib.bitLen v-1):=by simp [fe,kc,aF]
theorem BJ {v:Nat} (h:v<2^32):(fe v).length<=42:=by
 rw [nE]
 have h1:=bitLen_le h
 have h2:Lib.bitLen (Lib.bitLen v)<=6:=bitLen_le (by omega)
 omega
theorem BK (v:Nat):∀ m k,m<=k->aX (v%2^k) m=aX v m
 |0,_,_=>rfl
 |m+1,k,h=>by
  rw [aX,aX,BK v m k (by omega)]
  congr 2
  have e:v%2^k/2^m%2^1=v/2^m%2^1:=by
   obtain ⟨d,rfl⟩:∃ d,k=m+1+d:=⟨k-(m+1),by omega⟩
   rw [Sx,QY,Rw,Nat.mod_mul_right_div_self]
   rw [Nat.mod_mul_right_mod]
  rw [e]
theorem Ku (A B:List Bool) (x m k:Nat) (hk:k<m):rb (aH (A++(aX x m++B))) (A.length+k)=x/2^(m-1-k)%2:=by
 have hl:(A++(aX x m++B)).length=A.length+m+B.length:=by simp [aF,Rn]
 rw [BI (by omega),cI,KW,Qb (by omega),QG,Q4 (by rw [aF];omega),nD x m k hk]
 rw [Rb]
 rcases Ry (x/2^(m-1-k)) with h|h
 ·rw [h,IN (by omega)];rfl
 ·rw [h,PM rfl];rfl
theorem Je (A B:List Bool) {v k:Nat} (hk:k<Lib.bitLen v-1):rb (aH (A++(gH v++B))) (A.length+k)=0:=by
 unfold gH
 rw [LW,Ku A _ 0 _ k hk,Nat.zero_div]
theorem Jf (A B:List Bool) {v:Nat} (h0:0<v) (h:v<2^64):rb (aH (A++(gH v++B))) (A.length+(Lib.bitLen v-1))=1:=by
 obtain ⟨h1,h2,h3⟩:=dz h0 h
 unfold gH
 have e:A++(aX 0 (Lib.bitLen v-1)++aX v (Lib.bitLen v)++B)=(A++aX 0 (Lib.bitLen v-1))++(aX v (Lib.bitLen v)++B):=by simp [LW]
 have e2:A.length+(Lib.bitLen v-1)=(A++aX 0 (Lib.bitLen v-1)).length+0:=by simp [aF]
 rw [e,e2,Ku _ _ _ _ 0 (by omega),Sz]
 have h4:v/2^(Lib.bitLen v-1)=1:=by
  have e3:Lib.bitLen v=(Lib.bitLen v-1)+1:=by omega
  rw [e3,QY] at h3
  exact Nat.div_eq_of_lt_le (by omega) (by omega)
 rw [h4]
theorem Jg (A B:List Bool) {v:Nat} (h0:0<v) (h:v<2^64):sL (aH (A++(gH v++B))) (A.length+(Lib.bitLen v-1)) (Lib.bitLen v)=v:=by
 obtain ⟨h1,h2,h3⟩:=dz h0 h
 unfold gH
 have e:A++(aX 0 (Lib.bitLen v-1)++aX v (Lib.bitLen v)++B)=(A++aX 0 (Lib.bitLen v-1))++aX v (Lib.bitLen v)++B:=by simp [LW]
 have e2:A.length+(Lib.bitLen v-1)=(A++aX 0 (Lib.bitLen v-1)).length:=by simp [aF]
 rw [e,e2,vJ _ _ _ _ h3 _ (KB _),Qp,TC,Nat.div_one]
theorem Jh (A B:List Bool) (v m:Nat):sL (aH (A++(aX v m++B))) A.length m=v%2^m:=by
 rw [<-BK v m m (KB _),<-LW,vJ A B _ m (RY _ (R1 m)) m (KB _),Qp,TC,Nat.div_one]
theorem Ji {v:Nat} (h0:0<v) (h:v<2^64):2^(Lib.bitLen v-1)+v%2^(Lib.bitLen v-1)=v:=by
 obtain ⟨h1,h2,h3⟩:=dz h0 h
 have e3:Lib.bitLen v=(Lib.bitLen v-1)+1:=by omega
 have h4:v/2^(Lib.bitLen v-1)=1:=by
  rw [e3,QY] at h3
  exact Nat.div_eq_of_lt_le (by omega) (by omega)
 have:=TN v (2^(Lib.bitLen v-1))
 rw [h4] at this;omega
def FW (l:List Nat) (a x:Nat):Prop:=(∀ k,k<Lib.bitLen x-1->rb l (a+k)=0)/\rb l (a+(Lib.bitLen x-1))=1/\sL l (a+(Lib.bitLen x-1)) (Lib.bitLen x)=x
def FX (l:List Nat) (a x:Nat):Prop:=FW l a (Lib.bitLen x)/\sL l (a+(2*(Lib.bitLen (Lib.bitLen x)-1)+1)) (Lib.bitLen x-1)=x%2^(Lib.bitLen x-1)
theorem FY (A B:List Bool) {x:Nat} (h0:0<x) (h:x<2^64):FW (aH (A++(gH x++B))) A.length x:=
 ⟨λ k hk=>Je A B hk,Jf A B h0 h,Jg A B h0 h⟩
theorem FZ (A B:List Bool) {x:Nat} (h0:0<x) (h:x<2^64):FX (aH (A++(fe x++B))) A.length x:=by
 obtain ⟨h1,h2,h3⟩:=dz h0 h
 have h4:=bitLen_le64 x
 have h5:=(dz (v:=Lib.bitLen x) (by omega) (by omega)).1
 have e:A++(fe x++B)=A++(gH (Lib.bitLen x)++(aX x (Lib.bitLen x-1)++B)):=by unfold fe;simp only [LW]
 refine ⟨by rw [e];exact FY A _ (by omega) (by omega),?_⟩
 have e2:A++(fe x++B)=(A++gH (Lib.bitLen x))++(aX x (Lib.bitLen x-1)++B):=by rw [e,LW]
 have e3:A.length+(2*(Lib.bitLen (Lib.bitLen x)-1)+1)=(A++gH (Lib.bitLen x)).length:=by rw [sp,kc];omega
 rw [e2,e3,Jh]
def bY:Nat->List Nat->List Bool
 |_,[]=>[]
 |bf,p::r=>fe (p+1-bf)++bY (p+1) r
def LH (bf:Nat) (l:List Nat):Nat:=l.foldl (λ _ p=>p+1) bf
theorem G0 (bf:Nat) (l:List Nat) (p:Nat):LH bf (l++[p])=p+1:=by simp [LH]
theorem rG:∀ (l:List Nat) (bf p:Nat),bY bf (l++[p])=bY bf l++fe (p+1-LH bf l)
 |[],bf,p=>by simp [bY,LH]
 |q::r,bf,p=>by
  rw [Rt,bY,bY,rG r,LW];rfl
theorem qf:∀ (l r:List Nat) (bf:Nat),bY bf (l++r)=bY bf l++bY (LH bf l) r
 |[],r,bf=>rfl
 |q::l,r,bf=>by rw [Rt,bY,bY,qf l r,LW];rfl
structure OkP (l:List Nat):Prop where
 len:l.length<=4096
 asc:l.Pairwise (· < ·)
 lt:∀ p∈l,p<4096
theorem jc:∀ (l:List Nat) (bf:Nat),(∀ p∈l,p<4096)->(bY bf l).length<=42*l.length
 |[],_,_=>KD _
 |p::r,bf,h=>by
  have h1:=jc r (p+1) λ q hq=>h q (Qr _ hq)
  have h2:(fe (p+1-bf)).length<=42:=BJ (by have:=h p (by simp);omega)
  rw [bY,sp,KP];omega
def vK (l:List Nat) (i:Nat):Nat:=LH 0 (l.take i)
theorem kd {l:List Nat} {i p:Nat} (h:l[i]? =some p):vK l (i+1)=p+1:=by unfold vK;rw [ak h,G0]
theorem vL {l:List Nat} (h:OkP l) {i p:Nat} (hp:l[i]? =some p):vK l i<=p:=by
 cases i with
 |zero=>exact KD _
 |succ i=>
  have hi:=bQ hp
  obtain ⟨q,hq⟩:∃ q,l[i]? =some q:=⟨_,py (by omega)⟩
  rw [kd hq]
  have h1:=AT.1 hq
  have h2:=AT.1 hp
  have:=QS.1 h.asc i (i+1) (by omega) hi (by omega)
  rw [h1.2,h2.2] at this
  exact this
def ga (l:List Nat):Nat->List (Nat×Nat)
 |0=>[]
 |i+1=>if i%16=0 then ga l i++[(l.getD i 0,(bY 0 (l.take i)).length)] else ga l i
theorem jd (l:List Nat):∀ i,(ga l i).length=(i+15)/16
 |0=>rfl
 |i+1=>by
  unfold ga
  have:=jd l i
  split
  ·rw [sp,this,KM];omega
  ·rw [this];omega
theorem nF (l:List Nat):∀ i k x,(ga l i)[k]? =some x->x=(l.getD (16*k) 0,(bY 0 (l.take (16*k))).length)/\16*k<i
 |0,k,x,h=>by simp [ga] at h
 |i+1,k,x,h=>by
  unfold ga at h
  split at h
  ·rename_i h16
   rcases Q1 k (ga l i).length with h1|h1
   ·rw [Q4 h1] at h
    have:=nF l i k x h;exact ⟨this.1,by omega⟩
   ·rw [Qb h1] at h
    have h2:=bQ h
    have e:k-(ga l i).length=0:=by simp at h2;omega
    rw [e] at h;cases h
    rw [jd] at h1 e
    have e2:16*k=i:=by omega
    rw [e2];exact ⟨rfl,by omega⟩
  ·have:=nF l i k x h;exact ⟨this.1,by omega⟩
def qg (s:List (Nat×Nat)):Nat->List Nat
 |0=>[]
 |k+1=>if k=0 then [] else qg s k++uv ((s.getD k (0,0)).1-(s.getD (k-1) (0,0)).1)++uv ((s.getD k (0,0)).2-(s.getD (k-1) (0,0)).2)
theorem G1 (s:List (Nat×Nat)):∀ k,∀ x∈qg s k,x<256
 |0,x,h=>by cases h
 |k+1,x,h=>by
  unfold qg at h
  split at h
  ·cases h
  ·rcases PT.1 h with h|h
   ·rcases PT.1 h with h|h
    ·exact G1 s k x h
    ·exact dd _ x h
   ·exact dd _ x h
theorem BL (s:List (Nat×Nat)):∀ k,(qg s k).length<=20*k
 |0=>KD _
 |k+1=>by
  unfold qg
  split
  ·exact KD _
  ·have h1:=BL s k
   have h2:=aD ((s.getD k (0,0)).1-(s.getD (k-1) (0,0)).1)
   have h3:=aD ((s.getD k (0,0)).2-(s.getD (k-1) (0,0)).2)
   rw [sp,sp];omega
def mH (l:List Nat):List Nat:=uv l.length++uv (bY 0 l).length++aH (bY 0 l)++qg (ga l l.length) (ga l l.length).length
theorem iA (l:List Nat):∀ x∈mH l,x<256:=λ x h=>by
 unfold mH at h
 rcases PT.1 h with h|h
 ·rcases PT.1 h with h|h
  ·rcases PT.1 h with h|h<;>exact dd _ x h
  ·exact kj _ x h
 ·exact G1 _ _ x h
theorem je {l:List Nat} (h:OkP l):(mH l).length<=40000:=by
 unfold mH
 have h1:=aD l.length
 have h2:=aD (bY 0 l).length
 have h3:=jc l 0 h.lt
 have h4:=BL (ga l l.length) (ga l l.length).length
 have h5:=h.len
 rw [sp,sp,sp,bc]
 rw [jd] at h4⊢
 omega
def cr (s:ByteArray):List Nat:=uv s.size++bF s
def ke (l:List Nat):List Nat:=uv l.length++l
def pw (ps:List Pr):List Nat:=uv ps.length++ps.flatMap λ p=>cr p.1++cr p.2
theorem LI {x y:Nat} {r s:List Nat} (hx:x<2^64) (hy:y<2^64) (h:uv x++r=uv y++s):x=y/\r=s:=by
 have h1:=oG hx r
 rw [h,oG hy s] at h1
 have e:x=y:=(If Prod.fst h1).symm
 subst e
 exact ⟨rfl,append_cancel_left h⟩
theorem yb {s t:ByteArray} (h:bF s=bF t):s=t:=by
 unfold bF at h
 have:s.data.toList=t.data.toList:=List.map_inj_right (λ a b h=>SI.1 h)|>.1 h
 cases s;cases t
 simpa [Array.toList_inj] using this
def Nr (p:Pr):Prop:=p.1.size<2^64/\p.2.size<2^64
def ek (vs:List ByteArray):List Nat:=vs.map (bJ (a8 vs))
def eo (ns:List Nat) (n:Nat):List Nat:=(List.range ns.length).filter λ i=>decide (ns[i]? =some n)
theorem G2 {ns:List Nat} {n i:Nat}:i∈eo ns n↔ns[i]? =some n:=by
 unfold eo
 rw [Ri,SD,QC]
 exact ⟨λ h=>h.2,λ h=>⟨(AT.1 h).1,h⟩⟩
theorem kY {ns:List Nat} (n:Nat) (h:ns.length<=4096):OkP (eo ns n):=by
 refine ⟨?_,?_,λ p hp=> ?_⟩
 ·have:=length_filter_le (λ i=>decide (ns[i]? =some n)) (List.range ns.length)
  rw [SZ] at this;exact Q7 this h
 ·exact (pairwise_lt_range (n:=ns.length)).filter _
 ·have:=(AT.1 (G2.1 hp)).1;omega
theorem Dv (ns:List Nat) (x n:Nat):eo (ns++[x]) n=if x=n then eo ns n++[ns.length] else eo ns n:=by
 unfold eo
 rw [sp,KM,Ru,RD]
 have e:(List.range ns.length).filter (λ i=>decide ((ns++[x])[i]? =some n))=(List.range ns.length).filter λ i=>decide (ns[i]? =some n):=by
  apply filter_congr
  intro i hi
  rw [Q4 (SD.1 hi)]
 rw [e]
 by_cases h:x=n
 ·rw [PI h];simp [h]
 ·rw [M2 h];simp [h]
theorem vM {vs:List ByteArray}:∀ x∈ek vs,x<(a8 vs).length:=λ x hx=>by
 obtain ⟨v,hv,rfl⟩:=Qn.1 hx
 exact (AT.1 (jy hv)).1
where mem_get' {α:Type} {l:List α} {i:Nat} {x:α} (h:l[i]? =some x):x∈l:=PO h
section
variable (X:List ByteArray->List Nat) (T:List Nat->List Nat)
def sV (ns:List Nat) (k:Nat):List Nat:=(List.range k).flatMap λ n=>ke (aM (mH (eo ns n)))
def jJ (a:ByteArray×Bool) (vs:List ByteArray):List Nat:=cr a.1++(uv (if a.2 then 1 else 0)++(ke (X vs)++(ke (T (ek vs))++sV (ek vs) (a8 vs).length)))
def eM (at_:List (ByteArray×Bool)) (tk:List (List ByteArray)) (k:Nat):List Nat:=(List.range k).flatMap λ i=>jJ X T (at_.getD i (ByteArray.empty,false)) (tk.map λ t=>t.getD i ByteArray.empty)
abbrev lC:=ByteArray×Int×Int×List Pr
def Iv.v (x:Iv):lC:=(x.nm,x.b,x.e,x.ps)
def gS (x:lC):List Nat:=cr x.1++(uv (x.2.2.1-x.2.1).toNat++pw x.2.2.2)
def Kv (bf:Int) (x:lC):List Nat:=cr x.1++(uv (x.2.1-bf).toNat++(uv (x.2.2.1-x.2.1).toNat++pw x.2.2.2))
def fw:Int->List lC->List Nat
 |_,[]=>[]
 |bf,x::r=>Kv bf x++fw x.2.1 r
def Kx (bf:Int) (l:List lC):Int:=l.foldl (λ _ x=>x.2.1) bf
theorem tY:∀ (l:List lC) (bf:Int) (x:lC),fw bf (l++[x])=fw bf l++Kv (Kx bf l) x
 |[],bf,x=>by simp [fw,Kx]
 |y::l,bf,x=>by rw [Rt,fw,fw,tY l,LW];rfl
def rH (x:Nd):List Nat:=cr x.nm++(uv (x.p+1).toNat++(uv x.b.toNat++uv (x.e-x.b).toNat))
def sM (x:Int×ByteArray):List Nat:=uv (x.1+1).toNat++cr x.2
structure px where
 at_:List (ByteArray×Bool)
 tk:List (List ByteArray)
 tx:List lC
 rg:List lC
 nd:List Nd
 hd:List Int
 rl:List ByteArray
def Co.v (c:Co):px:=⟨c.at_,c.tk.map (·.ns),c.tx.map Iv.v,c.rg.map Iv.v,c.nd,c.hd,c.rl⟩
def iR (c:px):List Nat:=[67,83,49]++(uv c.at_.length++(eM X T c.at_ c.tk c.at_.length++(uv c.tx.length++(c.tx.flatMap gS++(uv c.rg.length++(fw 0 c.rg++(uv c.nd.length++(c.nd.flatMap rH++(uv c.hd.length++(c.hd.zip c.rl).flatMap sM)))))))))
end
def Ns (us:List ByteArray):Prop:=(us.length<=1024/\(a8 us).length<=8)/\∀ v∈us,v.size<=120
section
variable {X:List ByteArray->List Nat} {T:List Nat->List Nat}
def Nt:Int->List lC->Prop
 |_,[]=>True
 |z,x::r=>x.2.1=z/\Nt x.2.2.1 r
def N4:Int->List lC->Prop
 |_,[]=>True
 |z,x::r=>z<=x.2.1/\N4 x.2.1 r
def Px (x:lC):Prop:=x.1.size<2^64/\x.2.2.2.length<2^64/\(∀ p∈x.2.2.2,Nr p)/\0<=x.2.1/\x.2.1<=x.2.2.1/\x.2.2.1<4611686018427387904
structure OkV (a:px):Prop where
 an:1<=a.at_.length/\a.at_.length<=8
 as:∀ x∈a.at_,x.1.size<2^64
 tn:a.tk.length<=1024
 tw:∀ i,(a8 (a.tk.map λ t=>t.getD i ByteArray.empty)).length<=8
 tr:∀ r∈a.tk,r.length=a.at_.length/\∀ v∈r,v.size<=120
 xs:∀ x∈a.tx,Px x
 xc:Nt 0 a.tx
 rs:∀ x∈a.rg,Px x
 rc:N4 0 a.rg
 ns:∀ x∈a.nd,x.nm.size<2^64/\-1<=x.p/\x.p<4611686018427387904/\0<=x.b/\x.b<=x.e/\x.e<4611686018427387904
 hl:a.hd.length=a.rl.length
 hs:∀ x∈a.hd.zip a.rl,-1<=x.1/\x.1<4611686018427387904/\x.2.size<2^64
 ls:a.tx.length<2^64/\a.rg.length<2^64/\a.nd.length<2^64/\a.hd.length<2^64
end
theorem bk {s:ByteArray} (h:bC s=true):s.size<=32:=by
 unfold bC at h
 exact Qw (PY _ _▸h).1
theorem ik {s:ByteArray} (h:jf s=true):s.size<=120:=by
 unfold jf at h
 exact Qw (PY _ _▸h).1
theorem okPs.sz {ps:List Pr} (h:okPs ps):∀ p∈ps,Nr p:=λ p hp=>by
 have h1:=bk (h.2.1 p hp).1
 have h2:=ik (h.2.1 p hp).2
 exact ⟨by omega,by omega⟩
theorem Jj {x y:Iv} (h:ep x y<=0):x.b<=y.b:=by
 rcases (by omega:y.b<x.b\/x.b<=y.b) with q|q
 ·unfold ep dS at h
  rw [M2 (show ¬ x.b<y.b by omega),PI q,PI (by omega)] at h
  omega
 ·exact q
theorem Ky:∀ (l:List Iv) (z:Int),(∀ x,l[0]? =some x->x.b=z)->(∀ (i:Nat) x y,l[i]? =some x->l[i+1]? =some y->y.b=x.e)->Nt z (l.map Iv.v)
 |[],_,_,_=>trivial
 |x::l,z,h1,h2=>⟨h1 x rfl,Ky l x.e (λ y hy=>h2 0 x y rfl (by simpa using hy)) λ i a b ha hb=>h2 (i+1) a b (by simpa using ha) (by simpa using hb)⟩
theorem Kz:∀ (l:List Iv) (z:Int),(∀ x,l[0]? =some x->z<=x.b)->(∀ (i:Nat) x y,l[i]? =some x->l[i+1]? =some y->x.b<=y.b)->N4 z (l.map Iv.v)
 |[],_,_,_=>trivial
 |x::l,z,h1,h2=>⟨h1 x rfl,Kz l x.b (λ y hy=>h2 0 x y rfl (by simpa using hy)) λ i a b ha hb=>h2 (i+1) a b (by simpa using ha) (by simpa using hb)⟩
theorem yc:∀ (l V:List ByteArray),l.Nodup->(∀ x∈l,x∈V)->l.length<=V.length
 |[],_,_,_=>KD _
 |x::r,V,hn,h=>by
  obtain ⟨h1,h2⟩:=TH.1 hn
  have hx:=h x (by simp)
  have h3:=yc r (V.filter λ y=> !decide (y=x)) h2 λ y hy=>Ri.2 ⟨h y (Qr _ hy),by
   have hne:¬ y=x:=λ e=>by subst e;exact h1 hy
   rw [IN hne];rfl⟩
  have h4:(V.filter λ y=> !decide (y=x)).length<V.length:=length_filter_lt_length_iff_exists.2 ⟨x,hx,by simp⟩
  rw [KP];omega
theorem G3 {vs V:List ByteArray} (h:∀ v∈vs,v∈V):(a8 vs).length<=V.length:=
 yc _ _ (List.Pairwise.imp (R:=SLt) (S:=λ a b=>a≠b) (λ h e=>by subst e;exact SLt.sD _ h) (dM vs)) λ x hx=>h x (cB.1 hx)
theorem OkC.Oc {k:Nat} {c:Co} (h:OkC k c) (i:Nat):(a8 (c.tk.map λ t=>t.ns.getD i ByteArray.empty)).length<=8:=by
 refine Q7 (G3 (V:=ByteArray.empty::Jl i) λ v hv=> ?_) (Nat.succ_le_succ (G4 i))
 obtain ⟨t,ht,rfl⟩:=Qn.1 hv
 rw [KW]
 cases he:t.ns[i]? with
 |none=>exact QD ..
 |some u=>exact Qr _ (h.voc t ht i u he)
theorem OkC.P8 {k:Nat} {c:Co} (h:OkC k c) (hk:k<=80):OkV c.v:=by
 have hn:=h.ntk
 have bd:∀ {b e:Int},inT c.tx b e->0<=b/\b<=e/\e<4611686018427387904:=λ q=>by
  have:=q.bd h.tx;omega
 have hdl:c.hd.length=c.rl.length/\c.hd.length<=4096:=by
  rcases h.hd with ⟨a,b⟩|a
  ·rw [a,b];exact ⟨rfl,KD _⟩
  ·have:=a.len;omega
 refine ⟨h.at_.2,λ x hx=> ?_,?_,λ i=>by show (a8 ((c.tk.map (·.ns)).map _)).length<=8;rw [Sf];exact h.Oc i,λ r hr=> ?_,λ x hx=> ?_,Ky _ _ h.tx.first h.tx.next,λ x hx=> ?_,Kz _ _ (λ x hx=> ?_) (λ i x y hx hy=>Jj (h.rg.asc i x y hx hy)),λ x hx=> ?_,hdl.1,λ x hx=> ?_,?_⟩
 ·obtain ⟨i,hi⟩:=Qh hx
  have:=bk (h.at_.1 i x hi).1;omega
 ·show (c.tk.map (·.ns)).length<=1024
  rw [No];omega
 ·obtain ⟨t,ht,rfl⟩:=Qn.1 hr
  have q:=h.tk t ht
  refine ⟨q.1,λ v hv=> ?_⟩
  obtain ⟨i,hi⟩:=Qh hv
  have hl:=(AT.1 hi).1
  exact ik (q.2 i v _ hi (py (by omega))).val
 ·obtain ⟨t,ht,rfl⟩:=Qn.1 hx
  obtain ⟨q1,q2,q3,q4,q5⟩:=h.tx.nm t ht
  have:=bk q1
  exact ⟨by show t.nm.size<_;omega,by show t.ps.length<_;have:=q2.1;omega,q2.sz,q3,by show t.b<=t.e;omega,by show t.e<_;omega⟩
 ·obtain ⟨t,ht,rfl⟩:=Qn.1 hx
  obtain ⟨q1,q2,q3⟩:=h.rg.el t ht
  have:=bk q1
  have q4:=bd q2
  exact ⟨by show t.nm.size<_;omega,by show t.ps.length<_;have:=q3.1;omega,q3.sz,q4.1,q4.2.1,q4.2.2⟩
 ·exact (bd (h.rg.el x (PO hx)).2.1).1
 ·have q:=h.nd.el x hx
  have:=bk q.1
  have q4:=bd q.2
  obtain ⟨i,hi⟩:=Qh hx
  have hil:i<c.nd.length:=(AT.1 hi).1
  have:=h.nnd
  have q5:=h.nd.par i x hi
  exact ⟨by omega,by omega,by omega,q4⟩
 ·obtain ⟨i,hi⟩:=Qh hx
  rw [show c.v.hd=c.hd from rfl,show c.v.rl=c.rl from rfl,SQ] at hi
  rcases h.hd with ⟨a,b⟩|a
  ·rw [a] at hi;simp at hi
  ·have q1:=a.el i x.1 hi.1
   have q2:=a.nm x.2 (PO hi.2)
   refine ⟨?_,?_,?_⟩
   ·rcases q1 with e|⟨t,ht,e⟩
    ·omega
    ·have:=h.tx.nm t ht;omega
   ·rcases q1 with e|⟨t,ht,e⟩
    ·omega
    ·have:=h.tx.nm t ht;omega
   ·rcases q2 with e|e
    ·rw [e];exact R1 64
    ·have:=bk e;omega
 ·have h1:=h.ntx;have h2:=h.nrg;have h3:=h.nnd
  refine ⟨?_,?_,?_,?_⟩
  ·show (c.tx.map Iv.v).length<_;rw [No];omega
  ·show (c.rg.map Iv.v).length<_;rw [No];omega
  ·show c.nd.length<_;omega
  ·show c.hd.length<_;omega
end Go.Kw
