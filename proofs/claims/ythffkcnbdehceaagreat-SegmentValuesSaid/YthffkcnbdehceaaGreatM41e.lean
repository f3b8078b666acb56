/-
 M41e:the words of values,put in from the end;what a list of numbers and the places come to,word by word. No program in sight.
-/
import Derived.Test.YthffkcnbdehceaaGreatM41r
set_option linter.all false
open Go.Proofs.YthffkcnbdehceaaGreat
open List
namespace Go.Kw
def NP(W:List ByteArray)(y:ByteArray):Nat->Bool
 |0=>false
 |j+1=>match W[j]? with
  |some z=>decide (SLt y z)
  |none=>false
def OV(W:List ByteArray)(y:ByteArray):Nat->Bool
 |0=>true
 |j+1=>match W[j]? with
  |some z=>decide (¬ z=y)
  |none=>true
def xl{W:List ByteArray}{y z:ByteArray}{j:Nat}(h:0<j)(hz:W[j-1]? =some z):NP W y j=decide (SLt y z):=by
 cases j with
 |zero=>omega
 |succ j=>rw[Sx]at hz;simp[NP,hz]
def Ip{W:List ByteArray}{y:ByteArray}{j:Nat}(h:¬ 0<j):NP W y j=false:=by rw[show j=0 by omega];rfl
def xm{W:List ByteArray}{y z:ByteArray}{j:Nat}(h:0<j)(hz:W[j-1]? =some z):OV W y j=decide (¬ z=y):=by
 cases j with
 |zero=>omega
 |succ j=>rw[Sx]at hz;simp[OV,hz]
def zR{W:List ByteArray}{y:ByteArray}{j:Nat}(h:¬ 0<j):OV W y j=true:=by rw[show j=0 by omega];rfl
def Iq{W:List ByteArray}{y:ByteArray}{j:Nat}(h:NP W y j=true):0<j:=by
 cases j with
 |zero=>cases h
 |succ j=>omega
def Lo{W:List ByteArray}{y:ByteArray}{j:Nat}(h:NP W y j=true)(hg:∀ (i:Nat) z,j<=i->W[i]? =some z->SLt y z):∀ (i:Nat) z,j-1<=i->W[i]? =some z->SLt y z:=λ i z hi hz=>by
 rcases RG i j with h1|h1
 ·have e:i=j-1:=by omega
  subst e;rw[xl (Iq h) hz]at h;exact Sw h
 ·exact hg i z h1 hz
section
variable {vals:List ByteArray} {y:ByteArray} {j:Nat} (hj:j<=(aa vals).length) (hg:∀ (i:Nat) z,j<=i->(aa vals)[i]? =some z->SLt y z) (hf:NP (aa vals) y j=false)
include hj hg hf
def Fh(hn:OV (aa vals) y j=false):aa (vals++[y])=aa vals:=by
 have h0:0<j:=Decidable.byContradiction λ h=>by rw[zR h]at hn;cases hn
 obtain⟨z,hz⟩:∃ z,(aa vals)[j-1]? =some z:=⟨_,py (by omega)⟩;rw[xm h0 hz]at hn;have e:z=y:=Sj.1 (Tx hn);subst e;rw[dB,addW,No ((cw vals).get (Rv hz))]
def Fi(hn:OV (aa vals) y j=true):aa (vals++[y])=(aa vals).take j++y::(aa vals).drop j:=by
 have hlt:∀ (i:Nat) z,i<j->(aa vals)[i]? =some z->SLt z y:=λ i z hi hz=>by
  have h0:0<j:=by omega
  obtain⟨x,hx⟩:∃ x,(aa vals)[j-1]? =some x:=⟨_,py (by omega)⟩;rw[xm h0 hx]at hn;rw[xl h0 hx]at hf;have h1:SLt x y:=SLt.Jr (Tx hf) λ e=>Sw hn e.symm;rcases RG i (j-1)with h2|h2
  ·exact((cw vals).lt hz hx h2).tr h1
  ·rw[show i=j-1 by omega,hx]at hz;cases hz;exact h1
 have hl:di (aa vals) y=j:=xd hj hlt λ z hz=>(hg j z (KD _) hz).OO;have hno:¬ (aa vals)[di (aa vals) y]? =some y:=λ h=>by rw[hl]at h;exact SLt.qU y (hg j y (KD _) h)
 rw[dB,addW,M2 hno,jl];subst hl;rfl
end
def pF(l:List Nat)(k q m:Nat):List Nat:=if m<q then l.take (k+1)else l.take k
def zS(l:List Nat)(k m:Nat):pF l k 0 m=l.take k:=M2 (VD m)
def xn{l:List Nat}{k q m:Nat}(h:m<q):pF l k q m=l.take (k+1):=No h
def NQ{l:List Nat}{k q:Nat}(h:l[k]? =some q):pF l k q q++[q]=pF l k (q+1) q:=by
 rw[pF,pF,M2 (Vj q),No (Nat.lt_succ_self q),aj h]
def Ir{l:List Nat}{k q m:Nat}(h:q≠m):pF l k (q+1) m=pF l k q m:=by
 unfold pF;by_cases h1:m<q
 ·rw[No h1,No (by omega)]
 ·rw[M2 h1,M2 (by omega)]
def qM{us:List ByteArray}{x z:ByteArray}{q k:Nat}(hx:us[k]? =some x)(hz:(aa us)[q]? =some z):x=z↔q=di (aa us) x:=by
 have h1:=jZ (a7 hx);constructor
 ·rintro rfl;exact(cw us).inj hz h1
 ·rintro rfl;rw[hz]at h1;exact(SC h1).symm
def Lp{l:List Nat}{k q m:Nat}(h:l[k]? =some m)(e:q=m):pF l k q m++[q]=pF l k (q+1) m:=by subst e;exact NQ h
def Lq{l:List Nat}{S:List (SV×List Nat)}{n k q m:Nat}{p:SV×List Nat}{sv:SV}(h:l[k]? =some m)(e:q=m)(hS:S.map Prod.snd=(List.range n).map (dz (pF l k q m)))(hp:S[q]? =some p):(S.set q (sv,p.2++[k])).map Prod.snd=(List.range n).map (dz (pF l k (q+1) m)):=by
 subst e;rw[xn (Nat.lt_succ_self q)];rw[pF,M2 (Vj q)]at hS;exact zW h hS hp
def Fj(n:Nat):List.replicate n false=aT 0 n:=by
 apply UH
 ·rw[Tz,aH]
 ·intro i h1 h2;have h3:=py h2;rw[oa 0 n i (by rw[aH]at h2;exact h2)]at h3;rw[<-SC h3];simp
def Fk(l:List Nat)(k:Nat):List Nat:=(List.range k).map λ i=>(bC 0 (l.take i)).length
def qN(l:List Nat)(k:Nat):(Fk l k).length=k:=by simp[Fk]
def Is(l:List Nat)(k:Nat):Fk l k++[(bC 0 (l.take k)).length]=Fk l (k+1):=by simp[Fk,To]
def D4{l:List Nat}{k i:Nat}(h:i<k):(Fk l k)[i]? =some (bC 0 (l.take i)).length:=by simp[Fk,h]
def Lr{l:List Nat}{k x:Nat}(h:l[k]? =some x):bC 0 (l.take k)++fc (x+1-qi l k)=bC 0 (l.take (k+1)):=by rw[aj h,td];rfl
def Ls(l:List Nat):∀ (i j:Nat),i<=j->(bC 0 (l.take i)).length<=(bC 0 (l.take j)).length:=λ i j h=>by
 have e:l.take j=l.take i++(l.take j).drop i:=by
  conv=>lhs;rw[<-RY i (l.take j)]
  rw[take_take,Sr h]
 rw[e,qJ,sp];omega
def Iu{l:List Nat}{q:Nat}(h:16*q<l.length):(fK l l.length).getD q (0,0)=(l.getD (16*q) 0,(bC 0 (l.take (16*q))).length):=by
 have hl:=gJ l l.length;obtain⟨x,hx⟩:∃ x,(fK l l.length)[q]? =some x:=⟨_,py (by omega)⟩;rw[KP,hx,Ta];exact(lX l _ _ _ hx).1
def D5{l:List Nat}{q x y:Nat}(h:16*q<l.length)(h1:1<=q)(hx:l[16*q]? =some x)(hy:l[16*q-16]? =some y):
  qK (fK l l.length) q++uv (x-y)++uv ((bC 0 (l.take (16*q))).length-(bC 0 (l.take (16*q-16))).length)=qK (fK l l.length) (q+1):=by
 conv=>rhs;unfold qK
 rw[M2 (by omega),Iu h,Iu (q:=q-1) (by omega),show 16*(q-1)=16*q-16 by omega];rw[KP,KP,hx,hy];rfl
def sd_end{l:List Nat}{q:Nat}(h1:1<=q)(h:l.length<=16*q)(h2:16*q<=l.length+15\/q=1):qK (fK l l.length) q=qK (fK l l.length) (fK l l.length).length:=by
 rw[gJ];rcases SJ l.length with h0|h0
 ·rw[show q=1 by omega,h0];rfl
 ·rw[show(l.length+15)/16=q by omega]
def Lt:Lib.bitLen 1=1:=by decide
theorem OkP.le{l:List Nat}(h:OkP l){i j y x:Nat}(hy:l[i]? =some y)(hx:l[j]? =some x)(hij:i<j):y<=x:=by
 have h1:=IN.1 hy;have h2:=IN.1 hx;obtain⟨hi,rfl⟩:=h1;obtain⟨hj,rfl⟩:=h2;exact Nat.le_of_lt (SQ.1 h.asc i j hi hj hij)
