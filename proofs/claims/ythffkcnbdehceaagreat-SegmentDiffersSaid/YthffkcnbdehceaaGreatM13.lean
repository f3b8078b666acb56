/-
 M13:plain facts on ascending lists of different strings (layer 13). No program in sight.
-/
import Derived.Test.YthffkcnbdehceaaGreatM01
import Derived.Test.YthffkcnbdehceaaGreatKp
set_option linter.unusedVariables false
set_option linter.unusedSimpArgs false
set_option linter.unusedSectionVars false
namespace Go.Kw
section
variable {α:Type} {R:α->α->Prop} [DecidableRel R]
def vC (R:α->α->Prop) [DecidableRel R] (l:List α) (x:α):Nat:=(l.takeWhile λ y=>decide (R y x)).length
def jb (R:α->α->Prop) [DecidableRel R] (l:List α) (x:α):List α:=l.take (vC R l x)++x::l.drop (vC R l x)
theorem EP (l:List α) (x:α):vC R l x<=l.length:=(List.takeWhile_sublist _).length_le
theorem fH {y x:α} {r:List α} (h:R y x):vC R (y::r) x=vC R r x+1:=by simp [vC,h]
theorem fI {y x:α} {r:List α} (h:¬ R y x):vC R (y::r) x=0:=by simp [vC,h]
theorem ER {x:α}:∀ {l:List α} {k:Nat} {y:α},k<vC R l x->l[k]? =some y->R y x
 |[],k,y,h,hy=>by simp at hy
 |z::r,k,y,h,hy=>by
  by_cases hz:R z x
  ·rw [fH hz] at h
   cases k with
   |zero=>simp at hy;subst hy;exact hz
   |succ k=>exact ER (l:=r) (k:=k) (by omega) (by simpa using hy)
  ·rw [fI hz] at h;omega
theorem ES {x:α}:∀ {l:List α} {y:α},l[vC R l x]? =some y->¬ R y x
 |[],y,hy=>by simp at hy
 |z::r,y,hy=>by
  by_cases hz:R z x
  ·rw [fH hz] at hy
   exact ES (l:=r) (by simpa using hy)
  ·rw [fI hz] at hy
   simp at hy;subst hy;exact hz
theorem K6 {l:List α} {x:α} {k:Nat} (hk:k<=l.length) (h1:∀ j y,j<k->l[j]? =some y->R y x) (h2:∀ y,l[k]? =some y->¬ R y x):vC R l x=k:=by
 rcases Nat.lt_trichotomy (vC R l x) k with h|h|h
 ·have hlt:vC R l x<l.length:=by omega
  exact absurd (h1 _ _ h (List.getElem?_eq_getElem hlt)) (ES (List.getElem?_eq_getElem hlt))
 ·exact h
 ·have hlt:k<l.length:=by have:=EP (R:=R) l x;omega
  exact absurd (ER h (List.getElem?_eq_getElem hlt)) (h2 _ (List.getElem?_eq_getElem hlt))
theorem xv {l:List α} {x y:α}:y∈jb R l x↔y=x\/y∈l:=by
 unfold jb
 rw [List.mem_append,List.mem_cons]
 constructor
 ·rintro (h|h|h)
  ·exact .inr (List.mem_of_mem_take h)
  ·exact .inl h
  ·exact .inr (List.mem_of_mem_drop h)
 ·rintro (h|h)
  ·exact .inr (.inl h)
  ·rw [<-List.take_append_drop (vC R l x) l,List.mem_append] at h
   rcases h with h|h
   ·exact .inl h
   ·exact .inr (.inr h)
theorem tB (l:List α) (x:α):(jb R l x).Perm (x::l):=by
 unfold jb
 have h:=List.perm_middle (a:=x) (l₁:=l.take (vC R l x)) (l₂:=l.drop (vC R l x))
 rwa [List.take_append_drop] at h
theorem xw (l:List α) (x:α):(jb R l x).length=l.length+1:=by simpa using (tB (R:=R) l x).length_eq
theorem sj {y x:α} {r:List α} (h:R y x):jb R (y::r) x=y::jb R r x:=by simp [jb,fH h]
theorem so {y x:α} {r:List α} (h:¬ R y x):jb R (y::r) x=x::y::r:=by simp [jb,fI h]
theorem qY (tr:∀ {a b c},R a b->R b c->R a c) {x:α}:∀ {l:List α},l.Pairwise R->(∀ y∈l,¬ R y x->R x y)->(jb R l x).Pairwise R
 |[],_,_=>by simp [jb]
 |y::r,hl,hx=>by
  obtain ⟨h1,h2⟩:=List.pairwise_cons.1 hl
  by_cases h:R y x
  ·rw [sj h,List.pairwise_cons]
   refine ⟨λ z hz=> ?_,qY tr h2 λ z hz=>hx z (List.mem_cons_of_mem _ hz)⟩
   rcases xv.1 hz with rfl|hz
   ·exact h
   ·exact h1 z hz
  ·have hxy:=hx y (List.mem_cons_self ..) h
   rw [so h,List.pairwise_cons]
   refine ⟨λ z hz=> ?_,hl⟩
   rcases List.mem_cons.1 hz with rfl|hz
   ·exact hxy
   ·exact tr hxy (h1 z hz)
theorem lC (irr:∀ a,¬ R a a) (tr:∀ {a b c},R a b->R b c->R a c):∀ {a b:List α},a.Pairwise R->b.Pairwise R->(∀ x,x∈a↔x∈b)->a=b
 |[],[],_,_,_=>rfl
 |[],y::r,_,_,h=>by have:=(h y).2 (List.mem_cons_self ..);cases this
 |x::r,[],_,_,h=>by have:=(h x).1 (List.mem_cons_self ..);cases this
 |x::r,y::s,ha,hb,h=>by
  obtain ⟨a1,a2⟩:=List.pairwise_cons.1 ha
  obtain ⟨b1,b2⟩:=List.pairwise_cons.1 hb
  have hxy:x=y:=by
   rcases List.mem_cons.1 ((h x).1 (List.mem_cons_self ..)) with e|e
   ·exact e
   ·rcases List.mem_cons.1 ((h y).2 (List.mem_cons_self ..)) with e'|e'
    ·exact e'.symm
    ·exact absurd (tr (a1 y e') (b1 x e)) (irr x)
  subst hxy
  rw [lC irr tr a2 b2 λ z=> ?_]
  constructor
  ·intro hz
   rcases List.mem_cons.1 ((h z).1 (List.mem_cons_of_mem _ hz)) with e|e
   ·subst e;exact absurd (a1 z hz) (irr z)
   ·exact e
  ·intro hz
   rcases List.mem_cons.1 ((h z).2 (List.mem_cons_of_mem _ hz)) with e|e
   ·subst e;exact absurd (b1 z hz) (irr z)
   ·exact e
theorem AN (irr:∀ a,¬ R a a) (asy:∀ {a b},R a b->¬ R b a) {x:α}:∀ {l:List α},l.Pairwise R->x∈l->l[vC R l x]? =some x
 |[],_,h=>by cases h
 |y::r,hl,h=>by
  obtain ⟨h1,h2⟩:=List.pairwise_cons.1 hl
  rcases List.mem_cons.1 h with rfl|h
  ·rw [fI (irr _)];rfl
  ·rw [fH (h1 x h)];simpa using AN irr asy h2 h
end
def SLt (a b:ByteArray):Prop:=a.data.toList<b.data.toList
instance:DecidableRel SLt:=λ a b=>inferInstanceAs (Decidable (a.data.toList<b.data.toList))
theorem ik {a b:ByteArray} (h:a.data.toList=b.data.toList):a=b:=by
 obtain ⟨⟨x⟩⟩:=a;obtain ⟨⟨y⟩⟩:=b
 simp at h;rw [h]
theorem SLt.sC (a:ByteArray):¬ SLt a a:=List.lt_irrefl _
theorem SLt.tr {a b c:ByteArray} (h:SLt a b) (k:SLt b c):SLt a c:=List.lt_trans h k
theorem SLt.Lq {a b:ByteArray} (h:SLt a b):¬ SLt b a:=λ k=>SLt.sC a (h.tr k)
theorem SLt.ID {a b:ByteArray} (h:¬ SLt a b) (k:a≠b):SLt b a:=by
 rcases Decidable.em (SLt b a) with h'|h'
 ·exact h'
 ·exact absurd (ik (List.le_antisymm (List.not_lt.1 h') (List.not_lt.1 h))) k
abbrev Asc (l:List ByteArray):Prop:=l.Pairwise SLt
abbrev kF (l:List ByteArray) (w:ByteArray):Nat:=vC SLt l w
theorem Asc.eq {a b:List ByteArray} (ha:Asc a) (hb:Asc b) (h:∀ x,x∈a↔x∈b):a=b:=lC SLt.sC SLt.tr ha hb h
theorem Asc.get {l:List ByteArray} (h:Asc l) {w:ByteArray} (hw:w∈l):l[kF l w]? =some w:=AN SLt.sC SLt.Lq h hw
theorem Asc.ins {l:List ByteArray} (h:Asc l) {w:ByteArray} (hw:w∉l):Asc (jb SLt l w):=qY (R:=SLt) (λ h k=>SLt.tr h k) h λ y hy hn=>SLt.ID hn λ (e:y=w)=>hw (e▸hy)
theorem Asc.lt {l:List ByteArray} (h:Asc l) {i j:Nat} {x y:ByteArray} (hx:l[i]? =some x) (hy:l[j]? =some y) (hij:i<j):SLt x y:=by
 obtain ⟨h1,rfl⟩:=List.getElem?_eq_some_iff.1 hx
 obtain ⟨h2,rfl⟩:=List.getElem?_eq_some_iff.1 hy
 exact List.pairwise_iff_getElem.1 h i j h1 h2 hij
theorem Asc.inj {l:List ByteArray} (h:Asc l) {i j:Nat} {x:ByteArray} (hx:l[i]? =some x) (hy:l[j]? =some x):i=j:=by
 rcases Nat.lt_trichotomy i j with e|e|e
 ·exact absurd (h.lt hx hy e) (SLt.sC x)
 ·exact e
 ·exact absurd (h.lt hy hx e) (SLt.sC x)
theorem qZ {α:Type} {M:List α->Prop} (h0:M []) (h1:∀ l x,M l->M (l++[x])) (l:List α):M l:=by
 have:∀ r:List α,M r.reverse:=λ r=>by
  induction r with
  |nil=>exact h0
  |cons x r ih=>rw [List.reverse_cons];exact h1 _ _ ih
 simpa using this l.reverse
def lM (vs:List ByteArray) (w:ByteArray):Nat:=vs.countP λ x=>decide (x=w)
theorem jD (vs:List ByteArray) (v w:ByteArray):lM (vs++[v]) w=lM vs w+(if v=w then 1 else 0):=by
 simp only [lM,List.countP_append,List.countP_cons,List.countP_nil,decide_eq_true_eq];omega
theorem ET {vs:List ByteArray} {w:ByteArray} (h:w∉vs):lM vs w=0:=List.countP_eq_zero.2 λ x hx=>by simp;exact λ e=>h (e▸hx)
theorem HM {vs:List ByteArray} {w:ByteArray} (h:w∈vs):1<=lM vs w:=List.countP_pos_iff.2 ⟨w,h,by simp⟩
theorem nC (vs:List ByteArray) (w:ByteArray):lM vs w<=vs.length:=List.countP_le_length
def addW (W:List ByteArray) (v:ByteArray):List ByteArray:=if W[kF W v]? =some v then W else jb SLt W v
def au (vs:List ByteArray):List ByteArray:=vs.foldl addW []
def aV (vs:List ByteArray):List Nat:=(au vs).map (lM vs)
theorem gD (vs:List ByteArray) (v:ByteArray):au (vs++[v])=addW (au vs) v:=by simp [au]
theorem Ct {W:List ByteArray} (h:Asc W) (v:ByteArray):Asc (addW W v)/\∀ x,x∈addW W v↔x=v\/x∈W:=by
 unfold addW
 split
 ·rename_i hk
  have hm:=List.mem_of_getElem? hk
  exact ⟨h,λ x=>⟨.inr,λ hx=>hx.elim (λ e=>e▸hm) id⟩⟩
 ·rename_i hk
  have hn:v∉W:=λ hm=>hk (h.get hm)
  exact ⟨h.ins hn,λ x=>xv⟩
theorem oL (vs:List ByteArray):Asc (au vs)/\∀ x,x∈au vs↔x∈vs:=by
 induction vs using qZ with
 |h0=>exact ⟨List.Pairwise.nil,λ x=>Iff.rfl⟩
 |h1 vs v ih=>
  rw [gD]
  obtain ⟨h1,h2⟩:=Ct ih.1 v
  refine ⟨h1,λ x=> ?_⟩
  rw [h2,ih.2,List.mem_append,List.mem_singleton]
  exact Or.comm
theorem iW (vs:List ByteArray):Asc (au vs):=(oL vs).1
theorem bW {vs:List ByteArray} {x:ByteArray}:x∈au vs↔x∈vs:=(oL vs).2 x
theorem gj {vs:List ByteArray} {v:ByteArray} (h:v∈vs):(au vs)[kF (au vs) v]? =some v:=(iW vs).get (bW.2 h)
theorem xx (W:List ByteArray) (v:ByteArray):W.length<=(addW W v).length/\(addW W v).length<=W.length+1:=by
 unfold addW
 split
 ·omega
 ·rw [xw];omega
theorem bQ (vs:List ByteArray):(au vs).length<=vs.length:=by
 induction vs using qZ with
 |h0=>simp [au]
 |h1 vs v ih=>
  rw [gD,List.length_append]
  have:=(xx (au vs) v).2
  simp;omega
theorem ez (vs:List ByteArray):(aV vs).length=(au vs).length:=by simp [aV]
theorem uB {vs:List ByteArray} {v:ByteArray} (h:(au vs)[kF (au vs) v]? =some v):
  ∃ c,(aV vs)[kF (au vs) v]? =some c/\aV (vs++[v])=(aV vs).set (kF (au vs) v) (c+1):=by
 refine ⟨lM vs v,by simp [aV,h],?_⟩
 have e:au (vs++[v])=au vs:=by rw [gD,addW,if_pos h]
 unfold aV
 rw [e]
 have hlt:=(List.getElem?_eq_some_iff.1 h).1
 apply List.ext_getElem?
 intro j
 rw [List.getElem?_set]
 by_cases hj:kF (au vs) v=j
 ·subst hj
  rw [if_pos rfl,List.getElem?_map,h,if_pos (by simpa using hlt)]
  simp [jD]
 ·rw [if_neg hj,List.getElem?_map,List.getElem?_map]
  cases hx:(au vs)[j]? with
  |none=>rfl
  |some x=>
   have:v≠x:=λ e=>hj ((iW vs).inj h (e▸hx))
   simp [jD,this]
theorem zu {vs:List ByteArray} {v:ByteArray} (h:¬ (au vs)[kF (au vs) v]? =some v):
  aV (vs++[v])=(aV vs).take (kF (au vs) v)++1::(aV vs).drop (kF (au vs) v):=by
 have hn:v∉vs:=λ hm=>h (gj hm)
 have e:au (vs++[v])=jb SLt (au vs) v:=by rw [gD,addW,if_neg h]
 unfold aV
 rw [e,jb,List.map_append,List.map_cons,<-List.map_take,<-List.map_drop]
 have e1:∀ l:List ByteArray,(∀ x∈l,x∈au vs)->l.map (lM (vs++[v]))=l.map (lM vs):=λ l hl=>List.map_congr_left λ x hx=>by
  have:v≠x:=λ e=>hn (e▸bW.1 (hl x hx))
  simp [jD,this]
 rw [e1 _ λ x hx=>List.mem_of_mem_take hx,e1 _ λ x hx=>List.mem_of_mem_drop hx,jD,if_pos rfl,ET hn]
theorem oX {vs K:List ByteArray} (hn:K.Nodup) (hm:∀ x,x∈K↔x∈vs):
  (((K.map λ s=>s.data.toList).mergeSort λ x y=>decide (x<=y)).map λ l=>(⟨l.toArray⟩:ByteArray))=au vs:=by
 have hp:=List.mergeSort_perm (K.map λ s=>s.data.toList) (λ x y=>decide (x<=y))
 have hs:((K.map λ s=>s.data.toList).mergeSort λ x y=>decide (x<=y)).Pairwise λ x y=>decide (x<=y)=true:=List.pairwise_mergeSort (λ a b c h1 h2=>by simp at*;exact List.le_trans h1 h2) (λ a b=>by simp;exact List.le_total a b) _
 have hnd:((K.map λ s=>s.data.toList).mergeSort λ x y=>decide (x<=y)).Nodup:=by
  refine (List.Perm.nodup_iff hp).2 ?_
  rw [List.Nodup,List.pairwise_map]
  exact hn.imp λ h e=>h (ik e)
 refine Asc.eq ?_ (iW vs) λ x=> ?_
 ·show List.Pairwise SLt _
  rw [List.pairwise_map]
  refine (hs.and hnd).imp λ {a b} h=> ?_
  obtain ⟨h1,h2⟩:=h
  show a<b
  simp at h1
  rcases Decidable.em (a<b) with h3|h3
  ·exact h3
  ·exact absurd (List.le_antisymm h1 (List.not_lt.1 h3)) h2
 ·rw [bW,<-hm,List.mem_map]
  constructor
  ·rintro ⟨l,hl,rfl⟩
   obtain ⟨s,hs',rfl⟩:=List.mem_map.1 (hp.mem_iff.1 hl)
   have:(⟨s.data.toList.toArray⟩:ByteArray)=s:=by simp
   rw [this];exact hs'
  ·intro hx
   exact ⟨x.data.toList,hp.mem_iff.2 (List.mem_map.2 ⟨x,hx,rfl⟩),by simp⟩
def pF (W:List ByteArray) (i:Nat):ByteArray:=uh (W.getD i ByteArray.empty)
def Ge (W:List ByteArray) (i j:Nat):Prop:=SLt (pF W i) (pF W j)
instance (W:List ByteArray):DecidableRel (Ge W):=λ i j=>inferInstanceAs (Decidable (SLt _ _))
def okW (W:List ByteArray):Prop:=Asc W/\∀ w∈W,cV w=true
theorem okW.L7 {W:List ByteArray} (h:okW W) {i j:Nat} (hi:i<W.length) (hj:j<W.length) (e:pF W i=pF W j):i=j:=by
 have hi':W[i]? =some W[i]:=List.getElem?_eq_getElem hi
 have hj':W[j]? =some W[j]:=List.getElem?_eq_getElem hj
 have e1:W.getD i ByteArray.empty=W[i]:=by simp [List.getD_eq_getElem?_getD,hi']
 have e2:W.getD j ByteArray.empty=W[j]:=by simp [List.getD_eq_getElem?_getD,hj']
 unfold pF at e
 rw [e1,e2] at e
 have:=Ef (h.2 _ (List.getElem_mem hi)) (h.2 _ (List.getElem_mem hj)) e
 exact h.1.inj hi' (by rw [hj',<-this])
theorem okW.ID {W:List ByteArray} (h:okW W) {i j:Nat} (hi:i<W.length) (hj:j<W.length) (hne:i≠j) (hn:¬ Ge W i j):Ge W j i:=SLt.ID hn λ e=>hne (h.L7 hi hj e)
def xy (W:List ByteArray) (n:Nat):List Nat:=(List.range n).foldl (jb (Ge W)) []
def ordN (W:List ByteArray):List Nat:=xy W W.length
theorem tC (W:List ByteArray) (n:Nat):xy W (n+1)=jb (Ge W) (xy W n) n:=by simp [xy,List.range_succ]
theorem nX (W:List ByteArray):∀ n,(xy W n).Perm (List.range n)
 |0=>by simp [xy]
 |n+1=>by
  rw [tC,List.range_succ]
  exact (tB _ _).trans (((nX W n).cons n).trans (List.perm_append_singleton n (List.range n)).symm)
theorem xz {W:List ByteArray} (h:okW W):∀ n,n<=W.length->(xy W n).Pairwise (Ge W)
 |0,_=>by simp [xy]
 |n+1,hn=>by
  rw [tC]
  refine qY (R:=Ge W) (λ h1 h2=>SLt.tr h1 h2) (xz h n (by omega)) λ y hy hny=> ?_
  have:=List.mem_range.1 ((nX W n).mem_iff.1 hy)
  exact h.ID (by omega) (by omega) (by omega) hny
theorem Cu (W:List ByteArray):(ordN W).Perm (List.range W.length):=nX W _
theorem EU {W:List ByteArray} {i:Nat}:i∈ordN W↔i<W.length:=by rw [(Cu W).mem_iff,List.mem_range]
theorem xA {W:List ByteArray} (h:okW W) {l:List Nat} (hp:l.Perm (List.range W.length)) (hs:l.Pairwise λ i j=>¬ Ge W j i):l=ordN W:=by
 have hnd:l.Nodup:=hp.nodup_iff.2 List.nodup_range
 refine lC (R:=Ge W) (λ a=>SLt.sC _) (λ h1 h2=>SLt.tr h1 h2) ?_ (xz h _ (Nat.le_refl _)) λ x=> ?_
 ·have hm:∀ x∈l,x<W.length:=λ x hx=>List.mem_range.1 (hp.mem_iff.1 hx)
  rw [List.pairwise_iff_getElem] at hs⊢
  intro i j hi hj hij
  refine h.ID (hm _ (List.getElem_mem hj)) (hm _ (List.getElem_mem hi)) (λ e=> ?_) (hs i j hi hj hij)
  have:=(List.getElem?_inj hj hnd (j:=i)).1 (by rw [List.getElem?_eq_getElem hj,List.getElem?_eq_getElem hi,e])
  omega
 ·rw [hp.mem_iff,List.mem_range,EU]
end Go.Kw
namespace Go.Kw
def tD (c:Nat):Bool:=decide (c=95\/(65<=c/\c<=90)\/(97<=c/\c<=122))
def CQ (c:Nat):Bool:=decide (tD c=true\/(48<=c/\c<=57)\/c=45)
theorem LK {c:Nat} (h:tD c=true):CQ c=true:=decide_eq_true (.inl h)
def n1 (s:List UInt8):Bool:=match s with
 |[]=>false
 |c::r=>tD c.toNat&&r.all λ c=>CQ c.toNat
def bk (s:ByteArray):Bool:=decide (s.size<=32)&&n1 s.data.toList
theorem re {s:ByteArray} (h:32<s.size):bk s=false:=by
 unfold bk;rw [decide_eq_false (by omega)];rfl
theorem tE {s:ByteArray} (h:s.size<1):bk s=false:=by
 have h0:s.data.toList=[]:=List.eq_nil_of_length_eq_zero (by show s.data.toList.length=0;have:s.data.toList.length=s.size:=rfl;omega)
 unfold bk;rw [h0];simp [n1]
theorem oM {s:List UInt8} {c:UInt8} (h:s[0]? =some c) (hn:tD c.toNat=false):n1 s=false:=by
 cases s with
 |nil=>rfl
 |cons d r=>simp at h;subst h;simp [n1,hn]
theorem tF {s:List UInt8} {i:Nat} {c:UInt8} (h:s[i]? =some c) (hn:CQ c.toNat=false):n1 s=false:=by
 cases s with
 |nil=>rfl
 |cons d r=>
  cases i with
  |zero=>
   simp at h;subst h
   have:tD d.toNat=false:=Bool.eq_false_iff.2 λ h9=>by rw [LK h9] at hn;cases hn
   simp [n1,this]
  |succ i=>
   simp at h
   have hm:=List.mem_of_getElem? h
   have:(r.all λ c=>CQ c.toNat)=false:=Bool.eq_false_iff.2 λ h9=>by rw [List.all_eq_true.1 h9 c hm] at hn;cases hn
   simp [n1,this]
theorem rf {s:List UInt8} {c:UInt8} (h:s[0]? =some c) (hf:tD c.toNat=true) (hall:∀ i,∀ d,s[i]? =some d->0<i->CQ d.toNat=true):n1 s=true:=by
 cases s with
 |nil=>cases h
 |cons d r=>
  simp at h;subst h
  have:(r.all λ c=>CQ c.toNat)=true:=List.all_eq_true.2 λ x hx=>by
   obtain ⟨i,hi⟩:=List.getElem?_of_mem hx
   exact hall (i+1) x (by simpa using hi) (by omega)
  simp [n1,hf,this]
def cd:Enc (ByteArray×Bool):=⟨2,λ x=>[.string x.1,.bool x.2],λ _=>rfl,λ x u h=>by simp at h;rcases h with rfl|rfl<;>rfl⟩
structure Pc where
 f:Int
 sv:SV
 ns:List ByteArray
def K7 (l:List (ByteArray×Bool)) (i:Nat):Prop:=∀ x,l[i]? =some x->bk x.1=true/\((l.take i).any λ y=>decide (y.1=x.1))=false
def atsOk (l:List (ByteArray×Bool)):Prop:=(∀ i,K7 l i)/\1<=l.length/\l.length<=8
end Go.Kw
