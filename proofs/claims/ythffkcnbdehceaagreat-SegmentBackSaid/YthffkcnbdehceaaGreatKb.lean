/-
 KB:a block with two arrays of sixteen and a number:the codes,the rows of symbols,the longest length;a row taken out of rows and put back. Our own text;it names no program.
-/
import Derived.Test.YthffkcnbdehceaaGreatKm
open List
set_option linter.unusedVariables false
set_option linter.unusedSimpArgs false
set_option linter.unusedSectionVars false
namespace Go.Kw
open Go.RowKit
def fE (b T:Nat) (F:List Nat) (S:List (SV×List Nat)) (lo:Nat):Chunk:=aj b T ((a8 .u64).all F++(bK Nat).all S++[.int .i64 (lo:Int)])
theorem Pe (F:List Nat) {j x:Nat} (h:F[j]? =some x):((a8 .u64).all F)[j]? =some (.int .u64 (x:Int)):=by
 have:=(a8 .u64).all_get h (off:=0) (by decide)
 rw [show j*(a8 .u64).s+0=j from by simp [a8]] at this
 rw [this];rfl
theorem Pf (S:List (SV×List Nat)) {j:Nat} {p:SV×List Nat} (h:S[j]? =some p):((bK Nat).all S)[j]? =some p.1.val:=by
 have:=(bK Nat).all_get h (off:=0) (by decide)
 rw [show j*(bK Nat).s+0=j from by simp [bK]] at this
 rw [this];rfl
theorem uH (F:List Nat):((a8 .u64).all F).length=F.length:=by rw [(a8 .u64).all_length];exact Nat.mul_one _
theorem DT (S:List (SV×List Nat)):((bK Nat).all S).length=S.length:=by rw [(bK Nat).all_length];exact Nat.mul_one _
theorem Pg (F:List Nat) {j x:Nat} (h:j<F.length):((a8 .u64).all F).set j (.int .u64 (x:Int))=(a8 .u64).all (F.set j x):=by
 have:=nB (E:=a8 .u64) (l:=F) (j:=j) (a:=x) (u:= .int .u64 (x:Int)) rfl h
 rwa [show j*(a8 .u64).s=j from by simp [a8]] at this
theorem Ph (S:List (SV×List Nat)) {j:Nat} {p:SV×List Nat} (h:j<S.length):((bK Nat).all S).set j p.1.val=(bK Nat).all (S.set j p):=by
 have:=nB (E:=bK Nat) (l:=S) (j:=j) (a:=p) (u:=p.1.val) rfl h
 rwa [show j*(bK Nat).s=j from by simp [bK]] at this
section
variable {w0 w:World} {cs:List Chunk}
theorem yA {F:List Nat} {S:List (SV×List Nat)} {lo j x:Nat} (h:F[j]? =some x):((a8 .u64).all F++(bK Nat).all S++[.int .i64 (lo:Int)])[j]? =some (.int .u64 (x:Int)):=by
 have hj:=(List.getElem?_eq_some_iff.1 h).1
 rw [append_assoc,getElem?_append_left (by rw [uH];exact hj)];exact Pe F h
theorem yB {F:List Nat} {S:List (SV×List Nat)} {lo j:Nat} {p:SV×List Nat} (hF:F.length=16) (h:S[j]? =some p):((a8 .u64).all F++(bK Nat).all S++[.int .i64 (lo:Int)])[16+j]? =some p.1.val:=by
 have hj:=(List.getElem?_eq_some_iff.1 h).1
 rw [append_assoc,getElem?_append_right (by rw [uH,hF];omega),uH,hF,Nat.add_sub_cancel_left,getElem?_append_left (by rw [DT];exact hj)];exact Pf S h
theorem yC {F:List Nat} {S:List (SV×List Nat)} {lo:Nat} (hF:F.length=16) (hS:S.length=16):((a8 .u64).all F++(bK Nat).all S++[.int .i64 (lo:Int)])[32]? =some (.int .i64 (lo:Int)):=by
 rw [getElem?_append_right (by rw [length_append,uH,DT];omega),length_append,uH,DT,hF,hS];rfl
theorem Sat.KL (hs:Sat w0 cs w) (i:Nat) {b T lo j x:Nat} {F:List Nat} {S:List (SV×List Nat)} (hi:cs[i]? =some (fE b T F S lo)) (h:F[j]? =some x):w.cell? ⟨b,0+j*1,none⟩=some (.int .u64 (x:Int)):=by
 rw [Nat.zero_add,Nat.mul_one];exact hs.cell hi (yA h)
theorem Sat.EJ (hs:Sat w0 cs w) (i:Nat) {b T lo j:Nat} {F:List Nat} {S:List (SV×List Nat)} {p:SV×List Nat} (hi:cs[i]? =some (fE b T F S lo)) (hF:F.length=16) (h:S[j]? =some p):w.cell? ⟨b,16+j*1,none⟩=some p.1.val:=by
 rw [Nat.mul_one];exact hs.cell hi (yB hF h)
theorem Sat.tabN (hs:Sat w0 cs w) (i:Nat) {b T lo:Nat} {F:List Nat} {S:List (SV×List Nat)} (hi:cs[i]? =some (fE b T F S lo)) (hF:F.length=16) (hS:S.length=16):w.cell? ⟨b,32,none⟩=some (.int .i64 (lo:Int)):=hs.cell hi (yC hF hS)
theorem sY {α:Type} {l:List α} {j:Nat} {x y:α} (h:l[j]? =some x):(l.eraseIdx j++[y]).Perm (l.set j y):=by
 obtain ⟨hj,rfl⟩:=List.getElem?_eq_some_iff.1 h
 rw [eraseIdx_eq_take_drop_succ,set_eq_take_append_cons_drop,if_pos hj,append_assoc]
 exact List.Perm.append_left _ perm_append_comm
theorem Sat.Ad {A ds es:List Chunk} (h:Sat w0 A w) (i:Nat) (hi:A[i]? =some (kY ds)) (hp:ds.Perm es):Sat w0 (A.set i (kY es)) w:=by
 obtain ⟨hil,hid⟩:=List.getElem?_eq_some_iff.1 hi
 have e1:A=A.take i++kY ds::A.drop (i+1):=by rw [<-hid];simp
 rw [e1,Sat.ij] at h
 rw [set_eq_take_append_cons_drop,if_pos hil,Sat.ij]
 exact h.perm (List.Perm.append_left _ (List.Perm.append_right _ hp))
theorem Sat.pull {A ds:List Chunk} {d:Chunk} (h:Sat w0 A w) (i:Nat) (hi:A[i]? =some (kY (ds++[d]))):Sat w0 (A.set i (kY ds)++[d]) w:=by
 obtain ⟨hil,hid⟩:=List.getElem?_eq_some_iff.1 hi
 have e1:A=A.take i++kY (ds++[d])::A.drop (i+1):=by rw [<-hid];simp
 rw [e1,Sat.ij] at h
 rw [set_eq_take_append_cons_drop,if_pos hil,append_assoc,cons_append,Sat.ij]
 refine h.perm (List.Perm.append_left _ ?_)
 rw [append_assoc]
 exact List.Perm.append_left _ perm_append_comm
variable {α:Type} {E:Enc α} {e:Nat}
theorem Sat.BV {A:List Chunk} {ps:List (SV×List α)} {p:SV×List α} {j:Nat} (h:Sat w0 A w) (i:Nat) (hi:A[i]? =some (bm e E ps)) (hj:ps[j]? =some p):Sat w0 (A.set i (bm e E (ps.eraseIdx j))++[cL p.1.val e E p.2]) w:=by
 have hil:=(List.getElem?_eq_some_iff.1 hi).1
 have hpm:(ps.map λ p=>cL p.1.val e E p.2).Perm ((ps.eraseIdx j).map (λ p=>cL p.1.val e E p.2)++[cL p.1.val e E p.2]):=by
  have h1:(ps.eraseIdx j++[p]).Perm ps:=by
   have:=sY (y:=p) hj
   obtain ⟨hj2,hj3⟩:=List.getElem?_eq_some_iff.1 hj
   rw [<-hj3] at this⊢
   rwa [set_getElem_self] at this
  have h2:=(h1.map λ p=>cL p.1.val e E p.2).symm
  rw [map_append] at h2
  exact h2
 have h1:=h.Ad i hi hpm
 have h2:=h1.pull i (by rw [getElem?_set_self hil])
 rw [set_set] at h2
 exact h2
theorem Sat.I2 {A:List Chunk} {ps:List (SV×List α)} {s:SV} {l:List α} {j:Nat} (h:Sat w0 (A++[cL s.val e E l]) w) (i:Nat) (hi:A[i]? =some (bm e E (ps.eraseIdx j))) (hj:j<ps.length):Sat w0 (A.set i (bm e E (ps.set j (s,l)))) w:=by
 have hil:=(List.getElem?_eq_some_iff.1 hi).1
 have h1:=h.push i hi
 have hpm:((ps.eraseIdx j).map (λ p=>cL p.1.val e E p.2)++[cL s.val e E l]).Perm ((ps.set j (s,l)).map λ p=>cL p.1.val e E p.2):=by
  have h2:=(sY (l:=ps) (j:=j) (y:=(s,l)) (getElem?_eq_getElem hj)).map λ p=>cL p.1.val e E p.2
  rw [map_append] at h2
  exact h2
 have h2:=h1.Ad i (by rw [getElem?_set_self hil]) hpm
 rw [set_set] at h2
 exact h2
theorem Sat.xX (h:Sat w0 cs w) (e:Nat) (E:Enc α):∀ k,Sat w0 (cs++[bm e E (List.replicate k (⟨none,0,0⟩,[]))]) w
 |0=>h.xS e E
 |k+1=>by
  have h1:=(Sat.xX h e E k).aH e E
  have h2:=Sat.uw (A:=cs++[bm e E (List.replicate k (⟨none,0,0⟩,[]))]) (s:=⟨none,0,0⟩) (l:=[]) (ps:=List.replicate k (⟨none,0,0⟩,[])) h1 cs.length (by simp)
  rw [set_append_right _ _ (Nat.le_refl _),Nat.sub_self] at h2
  rw [replicate_succ']
  exact h2
variable {P:Program} {n:Nat} {L:ay} {K:Value->World->Prop} {d:Option Nat} {ty:TypeId} {pos:String} {af:Array Edge} {g:Option (Nat×Bool)}
theorem OpE.KN {x y:Operand} {T U b j a lo:Nat} {F:List Nat} {S:List (SV×List Nat)} (i:Nat) (hT:(P.info? T).map (·.size)=some 1) (hs:Sat w0 cs w) (hi:cs[i]? =some (fE b U F S lo)) (hx:aI L x=some (.pointer (some ⟨b,0+j*1,none⟩)))
  (hy:aI L y=some (.int .u64 (a:Int))) (hj:j<F.length) (hk:∀ w',Sat w0 (cs.set i (fE b U (F.set j a) S lo)) w'->Chg [b] w w'->K undef w'):OpE P n L w ⟨d,.store T x y,ty,pos,af,g⟩ K:=by
 rw [Nat.zero_add,Nat.mul_one] at hx
 refine OpE.aM hT hs hi hx hy rfl (yA (getElem?_eq_getElem hj)) λ w' hS hC=>hk w' ?_ hC
 rw [append_assoc,set_append_left _ _ (by rw [uH];exact hj),Pg F hj,<-append_assoc] at hS
 exact hS
theorem OpE.D9 {x y:Operand} {T U b j lo:Nat} {F:List Nat} {S:List (SV×List Nat)} (p:SV×List Nat) (i:Nat) (hT:(P.info? T).map (·.size)=some 1) (hs:Sat w0 cs w) (hi:cs[i]? =some (fE b U F S lo)) (hx:aI L x=some (.pointer (some ⟨b,16+j*1,none⟩)))
  (hy:aI L y=some p.1.val) (hF:F.length=16) (hj:j<S.length) (hk:∀ w',Sat w0 (cs.set i (fE b U F (S.set j p) lo)) w'->Chg [b] w w'->K undef w'):OpE P n L w ⟨d,.store T x y,ty,pos,af,g⟩ K:=by
 rw [Nat.mul_one] at hx
 refine OpE.aM hT hs hi hx hy rfl (yB hF (getElem?_eq_getElem hj)) λ w' hS hC=>hk w' ?_ hC
 rw [append_assoc,set_append_right _ _ (by rw [uH,hF];omega),uH,hF,Nat.add_sub_cancel_left,set_append_left _ _ (by rw [DT];exact hj),Ph S hj,<-append_assoc] at hS
 exact hS
theorem OpE.Db {x y:Operand} {T U b a lo:Nat} {F:List Nat} {S:List (SV×List Nat)} (i:Nat) (hT:(P.info? T).map (·.size)=some 1) (hs:Sat w0 cs w) (hi:cs[i]? =some (fE b U F S lo)) (hx:aI L x=some (.pointer (some ⟨b,32,none⟩)))
  (hy:aI L y=some (.int .i64 (a:Int))) (hF:F.length=16) (hS:S.length=16) (hk:∀ w',Sat w0 (cs.set i (fE b U F S a)) w'->Chg [b] w w'->K undef w'):OpE P n L w ⟨d,.store T x y,ty,pos,af,g⟩ K:=by
 refine OpE.aM hT hs hi hx hy rfl (yC hF hS) λ w' hSt hC=>hk w' ?_ hC
 rw [set_append_right _ _ (by rw [length_append,uH,DT];omega),length_append,uH,DT,hF,hS] at hSt
 exact hSt
end
section
variable {P:Program} {n:Nat} {L:ay} {w:World} {d:Option Nat} {ty:TypeId} {pos:String} {af:Array Edge} {g:Option (Nat×Bool)}
theorem FI (t:TypeId) (a b:Bool) (h:P.underlying t=some .bool) (w:World):(binOp .neq t (.bool a) (.bool b)).run P w= .ok (.bool (!(a==b))) w:=by
 have:∀ d,(Op.equalIn (d+1) t (.bool a) (.bool b)).run P w= .ok (a==b) w:=λ d=>by simp [Op.equalIn,run_underlying h]
 simp only [binOp]
 simp [Op.equal,Op.maxDepth,this 9999]
theorem Ev.P3 {x y:Operand} {t T:TypeId} {a b:Bool} (hu:P.underlying t=some .bool) (hx:aI L x=some (.bool a)) (hy:aI L y=some (.bool b)):Ev P n L w ⟨d,.binOp .neq t x y T,ty,pos,af,g⟩ (.bool (!(a==b))):=
 .bin hx hy (by rfl) λ w=>FI t a b hu w
end
section
variable {P:Program} {n:Nat} {fn:Func} {Φ:Value->World->Prop} {L:ay} {w:World}
theorem wW {t T b u:Nat} {vs:List Value} {x:Value} (hr:fn.results= #[.cell t T,.tmp u]) (hv:look L t=some (.pointer (some ⟨b,0,none⟩))) (hx:look L u=some x) (hT:dx P T vs.length=true) (hc:∀ j u,vs[j]? =some u->w.cell? ⟨b,j,none⟩=some u)
  (h:Φ (.tuple #[.agg vs.toArray,x]) w):aK P n fn Φ L w:=λ a ha=>by
 have h1:=ha.slot t _ hv
 have h2:=ha.slot u _ hx
 refine ⟨_,?_,h⟩
 simp [results,hr,Array.getD_eq_getD_getElem?,h1,h2,asAddr,jE hT hc]
end
end Go.Kw
