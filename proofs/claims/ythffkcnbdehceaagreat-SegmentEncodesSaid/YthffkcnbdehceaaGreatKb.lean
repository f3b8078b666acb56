/-
 KB:a block with two arrays of sixteen and a number:the codes,the rows of symbols,the longest length;a row taken out of rows and put back. Our own text;it names no program.
-/
import Derived.Test.YthffkcnbdehceaaGreatKm
open Go.Proofs.YthffkcnbdehceaaGreat
open List
set_option linter.unusedVariables false
set_option linter.unusedSimpArgs false
set_option linter.unusedSectionVars false
namespace Go.Kw
open Go.RowKit
section
variable {w0 w:World} {cs:List Chunk}
theorem qK {α:Type} {l:List α} {j:Nat} {x y:α} (h:l[j]? =some x):(l.eraseIdx j++[y]).Perm (l.set j y):=by
 obtain ⟨hj,rfl⟩:=AT.1 h
 rw [eraseIdx_eq_take_drop_succ,QX,PI hj,LW]
 exact Rk _ Su
theorem Sat.zb {A ds es:List Chunk} (h:Sat w0 A w) (i:Nat) (hi:A[i]? =some (jG ds)) (hp:ds.Perm es):Sat w0 (A.set i (jG es)) w:=by
 obtain ⟨hil,hid⟩:=AT.1 hi
 have e1:A=A.take i++jG ds::A.drop (i+1):=by rw [<-hid];simp
 rw [e1,Sat.gm] at h
 rw [QX,PI hil,Sat.gm]
 exact h.perm (Rk _ (Ta _ hp))
theorem Sat.pull {A ds:List Chunk} {d:Chunk} (h:Sat w0 A w) (i:Nat) (hi:A[i]? =some (jG (ds++[d]))):Sat w0 (A.set i (jG ds)++[d]) w:=by
 obtain ⟨hil,hid⟩:=AT.1 hi
 have e1:A=A.take i++jG (ds++[d])::A.drop (i+1):=by rw [<-hid];simp
 rw [e1,Sat.gm] at h
 rw [QX,PI hil,LW,Rt,Sat.gm]
 refine h.perm (Rk _ ?_)
 rw [LW]
 exact Rk _ Su
variable {α:Type} {E:Enc α} {e:Nat}
theorem Sat.HA {A:List Chunk} {ps:List (SV×List α)} {p:SV×List α} {j:Nat} (h:Sat w0 A w) (i:Nat) (hi:A[i]? =some (bh e E ps)) (hj:ps[j]? =some p):Sat w0 (A.set i (bh e E (ps.eraseIdx j))++[cL p.1.val e E p.2]) w:=by
 have hil:=(AT.1 hi).1
 have hpm:(ps.map λ p=>cL p.1.val e E p.2).Perm ((ps.eraseIdx j).map (λ p=>cL p.1.val e E p.2)++[cL p.1.val e E p.2]):=by
  have h1:(ps.eraseIdx j++[p]).Perm ps:=by
   have:=qK (y:=p) hj
   obtain ⟨hj2,hj3⟩:=AT.1 hj
   rw [<-hj3] at this⊢
   rwa [St] at this
  have h2:=(h1.map λ p=>cL p.1.val e E p.2).symm
  rw [Ql] at h2
  exact h2
 have h1:=h.zb i hi hpm
 have h2:=h1.pull i (by rw [Qo hil])
 rw [SY] at h2
 exact h2
theorem Sat.Cf {A:List Chunk} {ps:List (SV×List α)} {s:SV} {l:List α} {j:Nat} (h:Sat w0 (A++[cL s.val e E l]) w) (i:Nat) (hi:A[i]? =some (bh e E (ps.eraseIdx j))) (hj:j<ps.length):Sat w0 (A.set i (bh e E (ps.set j (s,l)))) w:=by
 have hil:=(AT.1 hi).1
 have h1:=h.push i hi
 have hpm:((ps.eraseIdx j).map (λ p=>cL p.1.val e E p.2)++[cL s.val e E l]).Perm ((ps.set j (s,l)).map λ p=>cL p.1.val e E p.2):=by
  have h2:=(qK (l:=ps) (j:=j) (y:=(s,l)) (py hj)).map λ p=>cL p.1.val e E p.2
  rw [Ql] at h2
  exact h2
 have h2:=h1.zb i (by rw [Qo hil]) hpm
 rw [SY] at h2
 exact h2
theorem Sat.wG (h:Sat w0 cs w) (e:Nat) (E:Enc α):∀ k,Sat w0 (cs++[bh e E (List.replicate k (⟨none,0,0⟩,[]))]) w
 |0=>h.qp e E
 |k+1=>by
  have h1:=(Sat.wG h e E k).aA e E
  have h2:=Sat.kI (A:=cs++[bh e E (List.replicate k (⟨none,0,0⟩,[]))]) (s:=⟨none,0,0⟩) (l:=[]) (ps:=List.replicate k (⟨none,0,0⟩,[])) h1 cs.length (by simp)
  rw [Qq _ _ (KB _),Qp] at h2
  rw [replicate_succ']
  exact h2
variable {P:Program} {n:Nat} {L:aB} {K:Value->World->Prop} {d:Option Nat} {ty:TypeId} {pos:String} {af:Array Edge} {g:Option (Nat×Bool)}
end
section
variable {P:Program} {n:Nat} {L:aB} {w:World} {d:Option Nat} {ty:TypeId} {pos:String} {af:Array Edge} {g:Option (Nat×Bool)}
theorem EX (t:TypeId) (a b:Bool) (h:P.underlying t=some .bool) (w:World):(binOp .neq t (.bool a) (.bool b)).run P w= .ok (.bool (!(a==b))) w:=by
 have:∀ d,(Op.equalIn (d+1) t (.bool a) (.bool b)).run P w= .ok (a==b) w:=λ d=>by simp [Op.equalIn,PN h]
 simp only [binOp]
 simp [Op.equal,Op.maxDepth,this 9999]
theorem Ev.Oq {x y:Operand} {t T:TypeId} {a b:Bool} (hu:P.underlying t=some .bool) (hx:aJ L x=some (.bool a)) (hy:aJ L y=some (.bool b)):Ev P n L w ⟨d,.binOp .neq t x y T,ty,pos,af,g⟩ (.bool (!(a==b))):=
 .bin hx hy (by rfl) λ w=>EX t a b hu w
end
section
variable {P:Program} {n:Nat} {fn:Func} {Φ:Value->World->Prop} {L:aB} {w:World}
theorem vj {t T b u:Nat} {vs:List Value} {x:Value} (hr:fn.results= #[.cell t T,.tmp u]) (hv:look L t=some (.pointer (some ⟨b,0,none⟩))) (hx:look L u=some x) (hT:dE P T vs.length=true) (hc:∀ j u,vs[j]? =some u->w.cell? ⟨b,j,none⟩=some u)
  (h:Φ (.tuple #[.agg vs.toArray,x]) w):aL P n fn Φ L w:=λ a ha=>by
 have h1:=ha.slot t _ hv
 have h2:=ha.slot u _ hx
 refine ⟨_,?_,h⟩
 simp [results,hr,QM,h1,h2,asAddr,jU hT hc]
end
end Go.Kw
