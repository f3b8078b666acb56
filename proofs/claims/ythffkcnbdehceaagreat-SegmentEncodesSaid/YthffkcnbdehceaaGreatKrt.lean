/-
 Krt:rows taken out of a chunk and put in again,in front of a tail. Our own text;it names no program.
-/
import Derived.Test.YthffkcnbdehceaaGreatKy
open Go.Proofs.YthffkcnbdehceaaGreat
open List
set_option linter.unusedVariables false
set_option linter.unusedSimpArgs false
set_option linter.unusedSectionVars false
namespace Go.Kw
open Go.RowKit
theorem xL {α:Type} (A cs:List α) (i:Nat) (c:α) (h:i<A.length):(A++cs).set i c=A.set i c++cs:=Tr i c h
theorem Sat.yZ {w0 w:World} {A cs L:List Chunk} {α:Type} (h:Sat w0 (A++cs) w) (e:Nat) (E:Enc α) (k:Nat) (hp:qY (A++[bh e E (List.replicate k (⟨none,0,0⟩,[]))])=some L):Sat w0 (L++cs) w:=(h.wG e E k).Kj hp
theorem Sat.Cc {w0 w:World} {A cs L:List Chunk} {α:Type} {e:Nat} {E:Enc α} {ps:List (SV×List α)} {p:SV×List α} {j:Nat} (h:Sat w0 (A++cs) w) (i:Nat) (hi:xO A i=some (bh e E ps)) (hb:Nat.blt i A.length=true) (hj:ps[j]? =some p) (hp:qY (A.set i (bh e E (ps.eraseIdx j))++[cL p.1.val e E p.2])=some L):Sat w0 (L++cs) w:=by
 have hl:i<A.length:=by rw [Tw] at hb;exact hb
 have h1:A[i]? =some (bh e E ps):=by
  have:=nc A i _ hi
  rw [KW,py hl,Rb] at this
  rw [py hl,this]
 have h2:=h.HA (p:=p) (j:=j) i (by rw [Q4 hl];exact h1) hj
 rw [xL _ _ _ _ hl] at h2
 exact h2.Kj hp
theorem Sat.Hq {w0 w:World} {A B cs L:List Chunk} {α:Type} {e:Nat} {E:Enc α} {ps:List (SV×List α)} {s:SV} {l:List α} {j:Nat} (h:Sat w0 (A++cs) w) (n i:Nat) (h1:qY (A.take n)=some B) (h2:A.drop n=[cL s.val e E l]) (hi:xO B i=some (bh e E (ps.eraseIdx j))) (hb:Nat.blt i B.length=true) (hj:j<ps.length) (hp:qY (B.set i (bh e E (ps.set j (s,l))))=some L):Sat w0 (L++cs) w:=by
 have hl:i<B.length:=by rw [Tw] at hb;exact hb
 have h3:B[i]? =some (bh e E (ps.eraseIdx j)):=by
  have:=nc B i _ hi
  rw [KW,py hl,Rb] at this
  rw [py hl,this]
 have hA:A=B++[cL s.val e E l]:=by
  rw [gA _ _ h1,<-h2,Qc]
 rw [hA] at h
 have h4:=Sat.Cf (A:=B++cs) h.wI i (by rw [Q4 hl];exact h3) hj
 rw [xL _ _ _ _ hl] at h4
 rw [gA _ _ hp]
 exact h4
section
variable {P:Program} {n:Nat} {L:aB} {w w0:World} {cs:List Chunk} {K:Value->World->Prop} {d:Option Nat} {ty:TypeId} {pos:String} {af:Array Edge} {g:Option (Nat×Bool)}
theorem Chg.freeze (w:World) (a:Addr) (k:Nat):Chg [a.block] w (w.freeze a k):=by
 unfold World.freeze
 split
 ·exact ⟨rfl,rfl,rfl,KB _,λ _ _ _=>rfl⟩
 ·refine ⟨rfl,rfl,rfl,by simp,λ j hj hn=> ?_⟩
  have:¬ a.block=j:=λ e=>hn (by simp [e])
  simp [Rl,this]
theorem OpE.Cg {x:Operand} {t e:TypeId} {v:Value} {l:List Nat} (i:Nat) (h2:P.underlying t=some (.slice e)) (h3:P.underlying e=some (.int .u8)) (hs:Sat w0 cs w) (hi:cs[i]? =some (cL v e (aa .u8) l)) (hx:aJ L x=some v) (hl:0<l.length)
  (hk:∀ w',Sat w0 (cs.set i (Fx v (aa .u8) l)) w'->K v w'):OpE P n L w ⟨d,.convert t t x,ty,pos,af,g⟩ K:=by
 obtain ⟨hlen,⟨rfl,hn⟩|⟨b,cap,cur,rfl,hb,hh,hnc,hcap,hcs,ht⟩⟩:=h_holds hs hi
 ·omega
 ·have hsh:w.shape? b=some (e,cur.size):=by unfold World.shape?;rw [hh]
  have hw:=Chg.freeze w ⟨b,cur.size,none⟩ 1
  have hh2:(w.freeze ⟨b,cur.size,none⟩ 1).heap[b]? =some (.cells cur e (cur.size,cur.size+1)):=by
   unfold World.freeze
   rw [M2 (by decide)]
   simp [Rl,hh]
  refine .val (v:= .slice (some ⟨b,0,none⟩) l.length cap) (w':=w.freeze ⟨b,cur.size,none⟩ 1) (λ ρ hρ=> ?_) (hk _ (hs.set i hi hw ?_ ?_))
  ·simp only [execOp,hρ hx,PS]
   simp [convert,PN h2,PN h3,markStringish,hsh]
  ·refine ⟨_,_,rfl,hnc,λ j u hu=>⟨b,0,rfl,?_⟩⟩
   rw [Qa,cell_of_heap hh2]
   rw [<-ht,QE] at hu
   split at hu
   ·simpa using hu
   ·cases hu
  ·intro k hk;exact .inl hk
where h_holds {w0 w:World} {cs:List Chunk} {i e:Nat} {v:Value} {l:List Nat} (hs:Sat w0 cs w) (hi:cs[i]? =some (cL v e (aa .u8) l)):w.ownsRow 0 e 1 v l.length ((aa .u8).all l):=hs.get hi
end
section
variable {P:Program} {n:Nat} {L:aB} {w w0:World} {cs:List Chunk} {d:Option Nat} {ty:TypeId} {x:Operand}
theorem Ev.Lc {pos:String} {af:Array Edge} {g:Option (Nat×Bool)} {T i b o:Nat} {U:TypeId} {cells vs:List Value} {m:Nat} (hT:dE P T m=true) (hx:aJ L x=some (.pointer (some ⟨b,o,none⟩))) (hs:Sat w0 cs w) (hi:cs[i]? =some (aq b U cells)) (hv:(cells.drop o).take m=vs) (hm:vs.length=m):
  Ev P n L w ⟨d,.load T x,ty,pos,af,g⟩ (.agg vs.toArray):= .of λ ρ hρ=>by
 subst hm
 have hl:=RF (P:=P) w ⟨b,o,none⟩ vs (λ q u hu=>by
  rw [Qu]
  refine hs.cell hi ?_
  rw [<-hv,QE] at hu
  split at hu
  ·rw [QZ] at hu;exact hu
  ·cases hu)
 have hag:(isAgg T).run P w= .ok true w:=by
  unfold dE at hT
  cases hun:P.underlying T with
  |none=>simp [hun] at hT
  |some D=>cases D<;>simp [hun] at hT<;>simp [isAgg,PN hun,go_sem]
 have hsz:(sizeOf T).run P w= .ok vs.length w:=by
  unfold dE at hT
  cases hin:P.info? T with
  |none=>simp [hin] at hT
  |some inf=>simp [hin] at hT;simp [sizeOf,typeInfo,hin,hT.2,go_sem]
 have hld:(Instr.loadAt T (ρ x)).run P w= .ok (.agg vs.toArray) w:=by
  simp only [Instr.loadAt,loadVar,hρ hx,Instr.sureAddr,PS,PZ,PL,hag,hsz,hl,RA]
 simp only [execOp,PS,hld,PL,PZ]
end
end Go.Kw
