/-
 LW:what the frames of all laws of this seat share:how arguments read. Our own text.
-/
import Derived.Test.YtcmldpiicnobnaaGreatDoorRows
import Derived.Test.YtcmldpiicnobnaaGreatDoorKw
import Derived.ProofKit
set_option linter.all false
set_option maxRecDepth 100000
open List hiding all
open Go.Proofs.Tryz
namespace Go.Proofs.YtcmldpiicnobnaaGreatDoor
open Go.ChangeShapes Go.WideShapes Go.ChangeAt Go.RowKit Go.Kw
theorem Dt:ownKnob prog.godebug=none:=by kernel_rfl
theorem np:laidOutB prog=true:=by kernel_rfl
theorem JV:prog.cellsOf 3=1:=by kernel_rfl
theorem Du{w:World}{a:Addr}{i:Nat}{u:Value}(h:w.cell? (a.add i)=some u)(h0:i=0->a.spot=none):w.cell? ⟨a.block,a.off+i,none⟩=some u:=by
 unfold Addr.add at h;split at h
 ·rename_i hi
  have:=h0 hi;subst hi;obtain⟨b,o,s⟩:=a;cases this;exact h
 ·exact h
theorem GC{H:Type}{enc:TypeId×Value->H}{W:World}{base:Nat}{v:Value}{d:DataW H}{p:List MemPlace}(hval:Value.okWide prog W .any base 22 v)(h:DataW.Trod enc prog W 0 (λ _=>true) true 22 v d p):
  ∃ z:List Int,RdL W v (Kw.encI .i64) z:=by
 obtain⟨a0,len,cap,rfl⟩:=okWide_slice underlying22 hval;obtain⟨fuel,hf⟩:=h;rcases open_ints underlying22 underlying3 JV hf with⟨hcs,_⟩|⟨a,len',cap',zs,hcs,_,hl,_,hz,_,hcell,_⟩
 ·have hcs':(#[Value.slice a0 len cap]).toList=[Value.slice none 0 0]:=hcs;simp at hcs';obtain⟨rfl,rfl,rfl⟩:=hcs';exact⟨[],RdL.nil W _⟩
 ·have hcs':(#[Value.slice a0 len cap]).toList=[Value.slice (some a) len' cap']:=hcs;simp at hcs';obtain⟨rfl,rfl,rfl⟩:=hcs';have hz':zs.length=cap:=by simpa using hz
  refine⟨zs.take len,?_⟩;have hlen:(zs.take len).length=len:=by rw[M2];omega
  unfold RdL;rw[hlen];refine⟨some a,cap,J,hl,λ j u hu=>?_⟩;have hcell':∀ j x,(zs.take len)[j]? =some x->W.cell? (a.add j)=some (.int .i64 x):=λ j x hx=>by
   rw[Pg]at hx;split at hx
   ·have hj:=(sp.1 hx).1;have:=hcell j hj;rwa[LW,hx]at this
   ·cases hx
  have hjl:j<((Kw.encI .i64).all (zs.take len)).length:=(sp.1 hu).1;rw[(Kw.encI .i64).all_length]at hjl;have hj1:j<(zs.take len).length:=by simpa[Kw.encI]using hjl
  obtain⟨x,hx⟩:∃ x,(zs.take len)[j]? =some x:=⟨_,py hj1⟩;have hget:=(Kw.encI .i64).all_get hx (off:=0) (by decide);have e1:j*(Kw.encI .i64).s+0=j:=by simp[Kw.encI]
  rw[e1]at hget;rw[hget]at hu;have hu':u= .int .i64 x:=by simpa[Kw.encI]using hu.symm
  subst hu';have hspot:a.spot=none:=by
   obtain⟨x0,hx0⟩:∃ x,(zs.take len)[0]? =some x:=⟨_,py (by omega)⟩;have h0:=hcell' 0 x0 hx0;unfold Addr.add at h0;rw[Ow J]at h0;unfold World.cell? at h0;split at h0
   ·split at h0
    ·cases h0
    ·rename_i hs;simpa using hs
   ·cases h0
  exact⟨a.block,a.off,by obtain⟨b,o,s⟩:=a;cases hspot;rfl,Du (hcell' j x hx) λ _=>hspot⟩
