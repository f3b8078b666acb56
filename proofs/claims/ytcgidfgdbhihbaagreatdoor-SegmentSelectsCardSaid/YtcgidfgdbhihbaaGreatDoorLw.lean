/-
 LW:what the frames of all laws of this seat share:how arguments read. Our own text.
-/
import Derived.Test.YtcgidfgdbhihbaaGreatDoorRows
import Derived.Test.YtcgidfgdbhihbaaGreatDoorKw
import Derived.ProofKit
open List renaming length→I,take→J
set_option linter.all false
set_option maxRecDepth 100000
open List hiding all
open Go.Proofs.Tryz
namespace Go.Proofs.YtcgidfgdbhihbaaGreatDoor
open Go.ChangeShapes Go.WideShapes Go.ChangeAt Go.RowKit Go.Kw
theorem JM:ownKnob prog.godebug=none:=F
theorem xh:laidOutB prog=true:=F
theorem RW:prog.cellsOf 3=1:=F
theorem JN{w:World}{a:Addr}{i:Nat}{u:Value}(h:w.cell? (a.add i)=some u)(h0:i=0->a.spot=none):w.cell? ⟨a.block,a.off+i,none⟩=some u:=by
 unfold Addr.add at h;split at h
 ·rename_i hi
  have:=h0 hi;subst hi;obtain⟨b,o,s⟩:=a;cases this;exact h
 ·exact h
theorem Et{H:Type}{enc:TypeId×Value->H}{W:World}{y:Nat}{v:Value}{d:DataW H}{p:List MemPlace}(E:Value.okWide prog W .any y 22 v)(h:DataW.Trod enc prog W 0 (λ _=>true) true 22 v d p):
  ∃ z:List Int,RdL W v (Kw.encI .i64) z:=by
 obtain⟨R,len,k,rfl⟩:=okWide_slice underlying22 E;obtain⟨T,hf⟩:=h;rcases open_ints underlying22 underlying3 RW hf with⟨w,_⟩|⟨a,len',cap',zs,w,_,hl,_,hz,_,hcell,_⟩
 ·have g:(#[Value.slice R len k]).toList=[Value.slice none 0 0]:=w;simp at g;obtain⟨rfl,rfl,rfl⟩:=g;exact⟨[],RdL.nil W _⟩
 ·have g:(#[Value.slice R len k]).toList=[Value.slice (some a) len' cap']:=w;simp at g;obtain⟨rfl,rfl,rfl⟩:=g;have a1:I zs=k:=by simpa using hz
  refine⟨J len zs,?_⟩;have D:I (J len zs)=len:=by rw[Xo];omega
  unfold RdL;rw[D];refine⟨some a,k,Y,hl,λ j u N=>?_⟩;have i:∀ j x,(J len zs)[j]? =some x->W.cell? (a.add j)=some (.int .i64 x):=λ j x q=>by
   rw[Yu]at q;split at q
   ·have hj:=(KC.1 q).1;have:=hcell j hj;rwa[KV,q]at this
   ·cases q
  have A:j<I ((Kw.encI .i64).all (J len zs)):=(KC.1 N).1;rw[(Kw.encI .i64).all_length]at A;have K:j<I (J len zs):=by simpa[Kw.encI]using A
  obtain⟨x,q⟩:=ut (J len zs) j K;have l:=(Kw.encI .i64).all_get q (off:=0) bl;have X:j*(Kw.encI .i64).s+0=j:=by simp[Kw.encI]
  rw[X]at l;rw[l]at N;have P:u= .int .i64 x:=by simpa[Kw.encI]using N.symm
  subst P;have t:a.spot=none:=by
   obtain⟨x0,Q⟩:∃ x,(J len zs)[0]? =some x:=⟨_,py O⟩;have r:=i 0 x0 Q;unfold Addr.add at r;rw[Xp Y]at r;unfold World.cell? at r;split at r
   ·split at r
    ·cases r
    ·rename_i hs;simpa using hs
   ·cases r
  exact⟨a.block,a.off,by obtain⟨b,o,s⟩:=a;cases t;rfl,JN (i j x q) λ _=>t⟩
