/-
 M41e:the words of values,put in from the end;what a list of numbers and the places come to,word by word. No program in sight.
-/
import Derived.Test.YthffkcnbdehceaaGreatM02v
open Go.Proofs.YthffkcnbdehceaaGreat
open List
set_option linter.unusedVariables false
set_option linter.unusedSimpArgs false
set_option linter.unusedSectionVars false
namespace Go.Kw
def M5 (W:List ByteArray) (y:ByteArray):Nat->Bool
 |0=>false
 |j+1=>match W[j]? with
  |some z=>decide (SLt y z)
  |none=>false
def N6 (W:List ByteArray) (y:ByteArray):Nat->Bool
 |0=>true
 |j+1=>match W[j]? with
  |some z=>decide (¬ z=y)
  |none=>true
theorem wi {W:List ByteArray} {y z:ByteArray} {j:Nat} (h:0<j) (hz:W[j-1]? =some z):M5 W y j=decide (SLt y z):=by
 cases j with
 |zero=>omega
 |succ j=>rw [Qy] at hz;simp [M5,hz]
theorem H4 {W:List ByteArray} {y:ByteArray} {j:Nat} (h:¬ 0<j):M5 W y j=false:=by rw [show j=0 by omega];rfl
theorem wj {W:List ByteArray} {y z:ByteArray} {j:Nat} (h:0<j) (hz:W[j-1]? =some z):N6 W y j=decide (¬ z=y):=by
 cases j with
 |zero=>omega
 |succ j=>rw [Qy] at hz;simp [N6,hz]
theorem yN {W:List ByteArray} {y:ByteArray} {j:Nat} (h:¬ 0<j):N6 W y j=true:=by rw [show j=0 by omega];rfl
theorem H5 {W:List ByteArray} {y:ByteArray} {j:Nat} (h:M5 W y j=true):0<j:=by
 cases j with
 |zero=>cases h
 |succ j=>omega
theorem JL {W:List ByteArray} {y:ByteArray} {j:Nat} (h:M5 W y j=true) (hg:∀ (i:Nat) z,j<=i->W[i]? =some z->SLt y z):∀ (i:Nat) z,j-1<=i->W[i]? =some z->SLt y z:=λ i z hi hz=>by
 rcases Q1 i j with h1|h1
 ·have e:i=j-1:=by omega
  subst e
  rw [wi (H5 h) hz] at h
  exact Qw h
 ·exact hg i z h1 hz
section
variable {vals:List ByteArray} {y:ByteArray} {j:Nat} (hj:j<=(a8 vals).length) (hg:∀ (i:Nat) z,j<=i->(a8 vals)[i]? =some z->SLt y z) (hf:M5 (a8 vals) y j=false)
include hj hg hf
theorem DS (hn:N6 (a8 vals) y j=false):a8 (vals++[y])=a8 vals:=by
 have h0:0<j:=Decidable.byContradiction λ h=>by rw [yN h] at hn;cases hn
 obtain ⟨z,hz⟩:∃ z,(a8 vals)[j-1]? =some z:=⟨_,py (by omega)⟩
 rw [wj h0 hz] at hn
 have e:z=y:=Qf.1 (Rm hn)
 subst e
 rw [cy,addW,PI ((dM vals).get (PO hz))]
theorem oS (hn:N6 (a8 vals) y j=true):a8 (vals++[y])=(a8 vals).take j++y::(a8 vals).drop j:=by
 have hlt:∀ (i:Nat) z,i<j->(a8 vals)[i]? =some z->SLt z y:=λ i z hi hz=>by
  have h0:0<j:=by omega
  obtain ⟨x,hx⟩:∃ x,(a8 vals)[j-1]? =some x:=⟨_,py (by omega)⟩
  rw [wj h0 hx] at hn
  rw [wi h0 hx] at hf
  have h1:SLt x y:=SLt.HT (Rm hf) λ e=>Qw hn e.symm
  rcases Q1 i (j-1) with h2|h2
  ·exact ((dM vals).lt hz hx h2).tr h1
  ·rw [show i=j-1 by omega,hx] at hz;cases hz;exact h1
 have hl:bJ (a8 vals) y=j:=vZ hj hlt λ z hz=>(hg j z (KB _) hz).ML
 have hno:¬ (a8 vals)[bJ (a8 vals) y]? =some y:=λ h=>by rw [hl] at h;exact SLt.sD y (hg j y (KB _) h)
 rw [cy,addW,M2 hno,gM]
 subst hl
 rfl
end
def lG (l:List Nat) (k q m:Nat):List Nat:=if m<q then l.take (k+1) else l.take k
theorem yO (l:List Nat) (k m:Nat):lG l k 0 m=l.take k:=M2 (TL m)
theorem wm {l:List Nat} {k q m:Nat} (h:m<q):lG l k q m=l.take (k+1):=PI h
theorem M6 {l:List Nat} {k q:Nat} (h:l[k]? =some q):lG l k q q++[q]=lG l k (q+1) q:=by
 rw [lG,lG,M2 (Nat.lt_irrefl q),PI (Nat.lt_succ_self q),ak h]
theorem H6 {l:List Nat} {k q m:Nat} (h:q≠m):lG l k (q+1) m=lG l k q m:=by
 unfold lG
 by_cases h1:m<q
 ·rw [PI h1,PI (by omega)]
 ·rw [M2 h1,M2 (by omega)]
theorem wq {us:List ByteArray} {x z:ByteArray} {q k:Nat} (hx:us[k]? =some x) (hz:(a8 us)[q]? =some z):x=z↔q=bJ (a8 us) x:=by
 have h1:=jy (a7 hx)
 constructor
 ·rintro rfl;exact (dM us).inj hz h1
 ·rintro rfl;rw [hz] at h1;exact (Qz h1).symm
theorem wu {l:List Nat} {k q m:Nat} (h:l[k]? =some m) (e:q=m):lG l k q m++[q]=lG l k (q+1) m:=by subst e;exact M6 h
theorem wx {l:List Nat} {S:List (SV×List Nat)} {n k q m:Nat} {p:SV×List Nat} {sv:SV} (h:l[k]? =some m) (e:q=m) (hS:S.map Prod.snd=(List.range n).map (eo (lG l k q m))) (hp:S[q]? =some p):(S.set q (sv,p.2++[k])).map Prod.snd=(List.range n).map (eo (lG l k (q+1) m)):=by
 subst e
 rw [wm (Nat.lt_succ_self q)]
 rw [lG,M2 (Nat.lt_irrefl q)] at hS
 exact y6 h hS hp
theorem uB (n:Nat):List.replicate n false=aX 0 n:=by
 apply SP
 ·rw [R6,aF]
 ·intro i h1 h2
  have h3:=py h2
  rw [nD 0 n i (by rw [aF] at h2;exact h2)] at h3
  rw [<-Qz h3];simp
def DT (l:List Nat) (k:Nat):List Nat:=(List.range k).map λ i=>(bY 0 (l.take i)).length
theorem qo (l:List Nat) (k:Nat):(DT l k).length=k:=by simp [DT]
theorem H7 (l:List Nat) (k:Nat):DT l k++[(bY 0 (l.take k)).length]=DT l (k+1):=by simp [DT,Ru]
theorem C2 {l:List Nat} {k i:Nat} (h:i<k):(DT l k)[i]? =some (bY 0 (l.take i)).length:=by simp [DT,h]
theorem JM {l:List Nat} {k x:Nat} (h:l[k]? =some x):bY 0 (l.take k)++fe (x+1-vK l k)=bY 0 (l.take (k+1)):=by rw [ak h,rG];rfl
theorem JN (l:List Nat):∀ (i j:Nat),i<=j->(bY 0 (l.take i)).length<=(bY 0 (l.take j)).length:=λ i j h=>by
 have e:l.take j=l.take i++(l.take j).drop i:=by
  conv=>lhs;rw [<-Qc i (l.take j)]
  rw [take_take,Qk h]
 rw [e,qf,sp];omega
theorem H8 {l:List Nat} {q:Nat} (h:16*q<l.length):(ga l l.length).getD q (0,0)=(l.getD (16*q) 0,(bY 0 (l.take (16*q))).length):=by
 have hl:=jd l l.length
 obtain ⟨x,hx⟩:∃ x,(ga l l.length)[q]? =some x:=⟨_,py (by omega)⟩
 rw [KW,hx,Rb];exact (nF l _ _ _ hx).1
theorem C3 {l:List Nat} {q x y:Nat} (h:16*q<l.length) (h1:1<=q) (hx:l[16*q]? =some x) (hy:l[16*q-16]? =some y):
  qg (ga l l.length) q++uv (x-y)++uv ((bY 0 (l.take (16*q))).length-(bY 0 (l.take (16*q-16))).length)=qg (ga l l.length) (q+1):=by
 conv=>rhs;unfold qg
 rw [M2 (by omega),H8 h,H8 (q:=q-1) (by omega),show 16*(q-1)=16*q-16 by omega]
 rw [KW,KW,hx,hy];rfl
theorem sd_end {l:List Nat} {q:Nat} (h1:1<=q) (h:l.length<=16*q) (h2:16*q<=l.length+15\/q=1):qg (ga l l.length) q=qg (ga l l.length) (ga l l.length).length:=by
 rw [jd]
 rcases QF l.length with h0|h0
 ·rw [show q=1 by omega,h0];rfl
 ·rw [show (l.length+15)/16=q by omega]
theorem JO:Lib.bitLen 1=1:=by decide
theorem OkP.le {l:List Nat} (h:OkP l) {i j y x:Nat} (hy:l[i]? =some y) (hx:l[j]? =some x) (hij:i<j):y<=x:=by
 have h1:=AT.1 hy
 have h2:=AT.1 hx
 obtain ⟨hi,rfl⟩:=h1
 obtain ⟨hj,rfl⟩:=h2
 exact Nat.le_of_lt (QS.1 h.asc i j hi hj hij)
end Go.Kw
