/-
 M13:plain facts on ascending lists of different strings (layer 13). No program in sight.
-/
import Derived.Test.YthffkcnbdehceaaGreatM01
import Derived.Test.YthffkcnbdehceaaGreatKp
open List
set_option linter.unusedVariables false
set_option linter.unusedSimpArgs false
set_option linter.unusedSectionVars false
namespace Go.Kw
section
variable {α:Type} {R:α->α->Prop} [DecidableRel R]
def y0 (R:α->α->Prop) [DecidableRel R] (l:List α) (x:α):Nat:=(l.takeWhile λ y=>decide (R y x)).length
def jx (R:α->α->Prop) [DecidableRel R] (l:List α) (x:α):List α:=l.take (y0 R l x)++x::l.drop (y0 R l x)
theorem GX (l:List α) (x:α):y0 R l x<=l.length:=(takeWhile_sublist _).length_le
theorem fY {y x:α} {r:List α} (h:R y x):y0 R (y::r) x=y0 R r x+1:=by simp [y0,h]
theorem fZ {y x:α} {r:List α} (h:¬ R y x):y0 R (y::r) x=0:=by simp [y0,h]
theorem GY {x:α}:∀ {l:List α} {k:Nat} {y:α},k<y0 R l x->l[k]? =some y->R y x
 |[],k,y,h,hy=>by simp at hy
 |z::r,k,y,h,hy=>by
  by_cases hz:R z x
  ·rw [fY hz] at h
   cases k with
   |zero=>simp at hy;subst hy;exact hz
   |succ k=>exact GY (l:=r) (k:=k) (by omega) (by simpa using hy)
  ·rw [fZ hz] at h;omega
theorem GZ {x:α}:∀ {l:List α} {y:α},l[y0 R l x]? =some y->¬ R y x
 |[],y,hy=>by simp at hy
 |z::r,y,hy=>by
  by_cases hz:R z x
  ·rw [fY hz] at hy
   exact GZ (l:=r) (by simpa using hy)
  ·rw [fZ hz] at hy
   simp at hy;subst hy;exact hz
theorem Mv {l:List α} {x:α} {k:Nat} (hk:k<=l.length) (h1:∀ j y,j<k->l[j]? =some y->R y x) (h2:∀ y,l[k]? =some y->¬ R y x):y0 R l x=k:=by
 rcases Nat.lt_trichotomy (y0 R l x) k with h|h|h
 ·have hlt:y0 R l x<l.length:=by omega
  exact absurd (h1 _ _ h (getElem?_eq_getElem hlt)) (GZ (getElem?_eq_getElem hlt))
 ·exact h
 ·have hlt:k<l.length:=by have:=GX (R:=R) l x;omega
  exact absurd (GY h (getElem?_eq_getElem hlt)) (h2 _ (getElem?_eq_getElem hlt))
theorem zC {l:List α} {x y:α}:y∈jx R l x↔y=x\/y∈l:=by
 unfold jx
 rw [mem_append,mem_cons]
 constructor
 ·rintro (h|h|h)
  ·exact .inr (mem_of_mem_take h)
  ·exact .inl h
  ·exact .inr (mem_of_mem_drop h)
 ·rintro (h|h)
  ·exact .inr (.inl h)
  ·rw [<-take_append_drop (y0 R l x) l,mem_append] at h
   rcases h with h|h
   ·exact .inl h
   ·exact .inr (.inr h)
theorem we (l:List α) (x:α):(jx R l x).Perm (x::l):=by
 unfold jx
 have h:=perm_middle (a:=x) (l₁:=l.take (y0 R l x)) (l₂:=l.drop (y0 R l x))
 rwa [take_append_drop] at h
theorem zD (l:List α) (x:α):(jx R l x).length=l.length+1:=by simpa using (we (R:=R) l x).length_eq
theorem uO {y x:α} {r:List α} (h:R y x):jx R (y::r) x=y::jx R r x:=by simp [jx,fY h]
theorem uP {y x:α} {r:List α} (h:¬ R y x):jx R (y::r) x=x::y::r:=by simp [jx,fZ h]
theorem tW (tr:∀ {a b c},R a b->R b c->R a c) {x:α}:∀ {l:List α},l.Pairwise R->(∀ y∈l,¬ R y x->R x y)->(jx R l x).Pairwise R
 |[],_,_=>by simp [jx]
 |y::r,hl,hx=>by
  obtain ⟨h1,h2⟩:=pairwise_cons.1 hl
  by_cases h:R y x
  ·rw [uO h,pairwise_cons]
   refine ⟨λ z hz=> ?_,tW tr h2 λ z hz=>hx z (mem_cons_of_mem _ hz)⟩
   rcases zC.1 hz with rfl|hz
   ·exact h
   ·exact h1 z hz
  ·have hxy:=hx y (mem_cons_self ..) h
   rw [uP h,pairwise_cons]
   refine ⟨λ z hz=> ?_,hl⟩
   rcases mem_cons.1 hz with rfl|hz
   ·exact hxy
   ·exact tr hxy (h1 z hz)
theorem mh (irr:∀ a,¬ R a a) (tr:∀ {a b c},R a b->R b c->R a c):∀ {a b:List α},a.Pairwise R->b.Pairwise R->(∀ x,x∈a↔x∈b)->a=b
 |[],[],_,_,_=>rfl
 |[],y::r,_,_,h=>by have:=(h y).2 (mem_cons_self ..);cases this
 |x::r,[],_,_,h=>by have:=(h x).1 (mem_cons_self ..);cases this
 |x::r,y::s,ha,hb,h=>by
  obtain ⟨a1,a2⟩:=pairwise_cons.1 ha
  obtain ⟨b1,b2⟩:=pairwise_cons.1 hb
  have hxy:x=y:=by
   rcases mem_cons.1 ((h x).1 (mem_cons_self ..)) with e|e
   ·exact e
   ·rcases mem_cons.1 ((h y).2 (mem_cons_self ..)) with e'|e'
    ·exact e'.symm
    ·exact absurd (tr (a1 y e') (b1 x e)) (irr x)
  subst hxy
  rw [mh irr tr a2 b2 λ z=> ?_]
  constructor
  ·intro hz
   rcases mem_cons.1 ((h z).1 (mem_cons_of_mem _ hz)) with e|e
   ·subst e;exact absurd (a1 z hz) (irr z)
   ·exact e
  ·intro hz
   rcases mem_cons.1 ((h z).2 (mem_cons_of_mem _ hz)) with e|e
   ·subst e;exact absurd (b1 z hz) (irr z)
   ·exact e
theorem CM (irr:∀ a,¬ R a a) (asy:∀ {a b},R a b->¬ R b a) {x:α}:∀ {l:List α},l.Pairwise R->x∈l->l[y0 R l x]? =some x
 |[],_,h=>by cases h
 |y::r,hl,h=>by
  obtain ⟨h1,h2⟩:=pairwise_cons.1 hl
  rcases mem_cons.1 h with rfl|h
  ·rw [fZ (irr _)];rfl
  ·rw [fY (h1 x h)];simpa using CM irr asy h2 h
end
def SLt (a b:ByteArray):Prop:=a.data.toList<b.data.toList
instance:DecidableRel SLt:=λ a b=>inferInstanceAs (Decidable (a.data.toList<b.data.toList))
theorem iJ {a b:ByteArray} (h:a.data.toList=b.data.toList):a=b:=by
 obtain ⟨⟨x⟩⟩:=a;obtain ⟨⟨y⟩⟩:=b
 simp at h;rw [h]
theorem SLt.vi (a:ByteArray):¬ SLt a a:=List.lt_irrefl _
theorem SLt.tr {a b c:ByteArray} (h:SLt a b) (k:SLt b c):SLt a c:=List.lt_trans h k
theorem SLt.NL {a b:ByteArray} (h:SLt a b):¬ SLt b a:=λ k=>SLt.vi a (h.tr k)
theorem SLt.KI {a b:ByteArray} (h:¬ SLt a b) (k:a≠b):SLt b a:=by
 rcases Decidable.em (SLt b a) with h'|h'
 ·exact h'
 ·exact absurd (iJ (List.le_antisymm (List.not_lt.1 h') (List.not_lt.1 h))) k
abbrev Asc (l:List ByteArray):Prop:=l.Pairwise SLt
abbrev l5 (l:List ByteArray) (w:ByteArray):Nat:=y0 SLt l w
theorem Asc.eq {a b:List ByteArray} (ha:Asc a) (hb:Asc b) (h:∀ x,x∈a↔x∈b):a=b:=mh SLt.vi SLt.tr ha hb h
theorem Asc.get {l:List ByteArray} (h:Asc l) {w:ByteArray} (hw:w∈l):l[l5 l w]? =some w:=CM SLt.vi SLt.NL h hw
theorem Asc.ins {l:List ByteArray} (h:Asc l) {w:ByteArray} (hw:w∉l):Asc (jx SLt l w):=tW (R:=SLt) (λ h k=>SLt.tr h k) h λ y hy hn=>SLt.KI hn λ (e:y=w)=>hw (e▸hy)
theorem Asc.lt {l:List ByteArray} (h:Asc l) {i j:Nat} {x y:ByteArray} (hx:l[i]? =some x) (hy:l[j]? =some y) (hij:i<j):SLt x y:=by
 obtain ⟨h1,rfl⟩:=List.getElem?_eq_some_iff.1 hx
 obtain ⟨h2,rfl⟩:=List.getElem?_eq_some_iff.1 hy
 exact pairwise_iff_getElem.1 h i j h1 h2 hij
theorem Asc.inj {l:List ByteArray} (h:Asc l) {i j:Nat} {x:ByteArray} (hx:l[i]? =some x) (hy:l[j]? =some x):i=j:=by
 rcases Nat.lt_trichotomy i j with e|e|e
 ·exact absurd (h.lt hx hy e) (SLt.vi x)
 ·exact e
 ·exact absurd (h.lt hy hx e) (SLt.vi x)
theorem tX {α:Type} {M:List α->Prop} (h0:M []) (h1:∀ l x,M l->M (l++[x])) (l:List α):M l:=by
 have:∀ r:List α,M r.reverse:=λ r=>by
  induction r with
  |nil=>exact h0
  |cons x r ih=>rw [reverse_cons];exact h1 _ _ ih
 simpa using this l.reverse
def mB (vs:List ByteArray) (w:ByteArray):Nat:=vs.countP λ x=>decide (x=w)
theorem k7 (vs:List ByteArray) (v w:ByteArray):mB (vs++[v]) w=mB vs w+(if v=w then 1 else 0):=by
 simp only [mB,countP_append,countP_cons,countP_nil,decide_eq_true_eq];omega
theorem H0 {vs:List ByteArray} {w:ByteArray} (h:w∉vs):mB vs w=0:=countP_eq_zero.2 λ x hx=>by simp;exact λ e=>h (e▸hx)
theorem JT {vs:List ByteArray} {w:ByteArray} (h:w∈vs):1<=mB vs w:=countP_pos_iff.2 ⟨w,h,by simp⟩
theorem oO (vs:List ByteArray) (w:ByteArray):mB vs w<=vs.length:=countP_le_length
def addW (W:List ByteArray) (v:ByteArray):List ByteArray:=if W[l5 W v]? =some v then W else jx SLt W v
def aw (vs:List ByteArray):List ByteArray:=vs.foldl addW []
def ba (vs:List ByteArray):List Nat:=(aw vs).map (mB vs)
theorem gX (vs:List ByteArray) (v:ByteArray):aw (vs++[v])=addW (aw vs) v:=by simp [aw]
theorem Es {W:List ByteArray} (h:Asc W) (v:ByteArray):Asc (addW W v)/\∀ x,x∈addW W v↔x=v\/x∈W:=by
 unfold addW
 split
 ·rename_i hk
  have hm:=mem_of_getElem? hk
  exact ⟨h,λ x=>⟨.inr,λ hx=>hx.elim (λ e=>e▸hm) id⟩⟩
 ·rename_i hk
  have hn:v∉W:=λ hm=>hk (h.get hm)
  exact ⟨h.ins hn,λ x=>zC⟩
theorem qt (vs:List ByteArray):Asc (aw vs)/\∀ x,x∈aw vs↔x∈vs:=by
 induction vs using tX with
 |h0=>exact ⟨List.Pairwise.nil,λ x=>Iff.rfl⟩
 |h1 vs v ih=>
  rw [gX]
  obtain ⟨h1,h2⟩:=Es ih.1 v
  refine ⟨h1,λ x=> ?_⟩
  rw [h2,ih.2,mem_append,mem_singleton]
  exact Or.comm
theorem je (vs:List ByteArray):Asc (aw vs):=(qt vs).1
theorem ck {vs:List ByteArray} {x:ByteArray}:x∈aw vs↔x∈vs:=(qt vs).2 x
theorem gE {vs:List ByteArray} {v:ByteArray} (h:v∈vs):(aw vs)[l5 (aw vs) v]? =some v:=(je vs).get (ck.2 h)
theorem zE (W:List ByteArray) (v:ByteArray):W.length<=(addW W v).length/\(addW W v).length<=W.length+1:=by
 unfold addW
 split
 ·omega
 ·rw [zD];omega
theorem bZ (vs:List ByteArray):(aw vs).length<=vs.length:=by
 induction vs using tX with
 |h0=>simp [aw]
 |h1 vs v ih=>
  rw [gX,length_append]
  have:=(zE (aw vs) v).2
  simp;omega
theorem eM (vs:List ByteArray):(ba vs).length=(aw vs).length:=by simp [ba]
theorem xv {vs:List ByteArray} {v:ByteArray} (h:(aw vs)[l5 (aw vs) v]? =some v):
  ∃ c,(ba vs)[l5 (aw vs) v]? =some c/\ba (vs++[v])=(ba vs).set (l5 (aw vs) v) (c+1):=by
 refine ⟨mB vs v,by simp [ba,h],?_⟩
 have e:aw (vs++[v])=aw vs:=by rw [gX,addW,if_pos h]
 unfold ba
 rw [e]
 have hlt:=(List.getElem?_eq_some_iff.1 h).1
 apply ext_getElem?
 intro j
 rw [getElem?_set]
 by_cases hj:l5 (aw vs) v=j
 ·subst hj
  rw [if_pos rfl,getElem?_map,h,if_pos (by simpa using hlt)]
  simp [k7]
 ·rw [if_neg hj,getElem?_map,getElem?_map]
  cases hx:(aw vs)[j]? with
  |none=>rfl
  |some x=>
   have:v≠x:=λ e=>hj ((je vs).inj h (e▸hx))
   simp [k7,this]
theorem BA {vs:List ByteArray} {v:ByteArray} (h:¬ (aw vs)[l5 (aw vs) v]? =some v):
  ba (vs++[v])=(ba vs).take (l5 (aw vs) v)++1::(ba vs).drop (l5 (aw vs) v):=by
 have hn:v∉vs:=λ hm=>h (gE hm)
 have e:aw (vs++[v])=jx SLt (aw vs) v:=by rw [gX,addW,if_neg h]
 unfold ba
 rw [e,jx,map_append,map_cons,<-map_take,<-map_drop]
 have e1:∀ l:List ByteArray,(∀ x∈l,x∈aw vs)->l.map (mB (vs++[v]))=l.map (mB vs):=λ l hl=>map_congr_left λ x hx=>by
  have:v≠x:=λ e=>hn (e▸ck.1 (hl x hx))
  simp [k7,this]
 rw [e1 _ λ x hx=>mem_of_mem_take hx,e1 _ λ x hx=>mem_of_mem_drop hx,k7,if_pos rfl,H0 hn]
theorem rf {vs K:List ByteArray} (hn:K.Nodup) (hm:∀ x,x∈K↔x∈vs):
  (((K.map λ s=>s.data.toList).mergeSort λ x y=>decide (x<=y)).map λ l=>(⟨l.toArray⟩:ByteArray))=aw vs:=by
 have hp:=mergeSort_perm (K.map λ s=>s.data.toList) (λ x y=>decide (x<=y))
 have hs:((K.map λ s=>s.data.toList).mergeSort λ x y=>decide (x<=y)).Pairwise λ x y=>decide (x<=y)=true:=pairwise_mergeSort (λ a b c h1 h2=>by simp at*;exact List.le_trans h1 h2) (λ a b=>by simp;exact List.le_total a b) _
 have hnd:((K.map λ s=>s.data.toList).mergeSort λ x y=>decide (x<=y)).Nodup:=by
  refine (List.Perm.nodup_iff hp).2 ?_
  rw [List.Nodup,pairwise_map]
  exact hn.imp λ h e=>h (iJ e)
 refine Asc.eq ?_ (je vs) λ x=> ?_
 ·show List.Pairwise SLt _
  rw [pairwise_map]
  refine (hs.and hnd).imp λ {a b} h=> ?_
  obtain ⟨h1,h2⟩:=h
  show a<b
  simp at h1
  rcases Decidable.em (a<b) with h3|h3
  ·exact h3
  ·exact absurd (List.le_antisymm h1 (List.not_lt.1 h3)) h2
 ·rw [ck,<-hm,mem_map]
  constructor
  ·rintro ⟨l,hl,rfl⟩
   obtain ⟨s,hs',rfl⟩:=mem_map.1 (hp.mem_iff.1 hl)
   have:(⟨s.data.toList.toArray⟩:ByteArray)=s:=by simp
   rw [this];exact hs'
  ·intro hx
   exact ⟨x.data.toList,hp.mem_iff.2 (mem_map.2 ⟨x,hx,rfl⟩),by simp⟩
def rO (W:List ByteArray) (i:Nat):ByteArray:=xe (W.getD i ByteArray.empty)
def Ik (W:List ByteArray) (i j:Nat):Prop:=SLt (rO W i) (rO W j)
instance (W:List ByteArray):DecidableRel (Ik W):=λ i j=>inferInstanceAs (Decidable (SLt _ _))
def okW (W:List ByteArray):Prop:=Asc W/\∀ w∈W,db w=true
theorem okW.Ns {W:List ByteArray} (h:okW W) {i j:Nat} (hi:i<W.length) (hj:j<W.length) (e:rO W i=rO W j):i=j:=by
 have hi':W[i]? =some W[i]:=getElem?_eq_getElem hi
 have hj':W[j]? =some W[j]:=getElem?_eq_getElem hj
 have e1:W.getD i ByteArray.empty=W[i]:=by simp [getD_eq_getElem?_getD,hi']
 have e2:W.getD j ByteArray.empty=W[j]:=by simp [getD_eq_getElem?_getD,hj']
 unfold rO at e
 rw [e1,e2] at e
 have:=Gl (h.2 _ (getElem_mem hi)) (h.2 _ (getElem_mem hj)) e
 exact h.1.inj hi' (by rw [hj',<-this])
theorem okW.KI {W:List ByteArray} (h:okW W) {i j:Nat} (hi:i<W.length) (hj:j<W.length) (hne:i≠j) (hn:¬ Ik W i j):Ik W j i:=SLt.KI hn λ e=>hne (h.Ns hi hj e)
def zF (W:List ByteArray) (n:Nat):List Nat:=(List.range n).foldl (jx (Ik W)) []
def ordN (W:List ByteArray):List Nat:=zF W W.length
theorem wg (W:List ByteArray) (n:Nat):zF W (n+1)=jx (Ik W) (zF W n) n:=by simp [zF,range_succ]
theorem pE (W:List ByteArray):∀ n,(zF W n).Perm (List.range n)
 |0=>by simp [zF]
 |n+1=>by
  rw [wg,range_succ]
  exact (we _ _).trans (((pE W n).cons n).trans (perm_append_singleton n (List.range n)).symm)
theorem zG {W:List ByteArray} (h:okW W):∀ n,n<=W.length->(zF W n).Pairwise (Ik W)
 |0,_=>by simp [zF]
 |n+1,hn=>by
  rw [wg]
  refine tW (R:=Ik W) (λ h1 h2=>SLt.tr h1 h2) (zG h n (by omega)) λ y hy hny=> ?_
  have:=mem_range.1 ((pE W n).mem_iff.1 hy)
  exact h.KI (by omega) (by omega) (by omega) hny
theorem Et (W:List ByteArray):(ordN W).Perm (List.range W.length):=pE W _
theorem H2 {W:List ByteArray} {i:Nat}:i∈ordN W↔i<W.length:=by rw [(Et W).mem_iff,mem_range]
theorem zH {W:List ByteArray} (h:okW W) {l:List Nat} (hp:l.Perm (List.range W.length)) (hs:l.Pairwise λ i j=>¬ Ik W j i):l=ordN W:=by
 have hnd:l.Nodup:=hp.nodup_iff.2 nodup_range
 refine mh (R:=Ik W) (λ a=>SLt.vi _) (λ h1 h2=>SLt.tr h1 h2) ?_ (zG h _ (Nat.le_refl _)) λ x=> ?_
 ·have hm:∀ x∈l,x<W.length:=λ x hx=>mem_range.1 (hp.mem_iff.1 hx)
  rw [pairwise_iff_getElem] at hs⊢
  intro i j hi hj hij
  refine h.KI (hm _ (getElem_mem hj)) (hm _ (getElem_mem hi)) (λ e=> ?_) (hs i j hi hj hij)
  have:=(getElem?_inj hj hnd (j:=i)).1 (by rw [getElem?_eq_getElem hj,getElem?_eq_getElem hi,e])
  omega
 ·rw [hp.mem_iff,mem_range,H2]
def wh (c:Nat):Bool:=decide (c=95\/(65<=c/\c<=90)\/(97<=c/\c<=122))
def EL (c:Nat):Bool:=decide (wh c=true\/(48<=c/\c<=57)\/c=45)
theorem O5 {c:Nat} (h:wh c=true):EL c=true:=decide_eq_true (.inl h)
def o8 (s:List UInt8):Bool:=match s with
 |[]=>false
 |c::r=>wh c.toNat&&r.all λ c=>EL c.toNat
def bA (s:ByteArray):Bool:=decide (s.size<=32)&&o8 s.data.toList
theorem tY {s:ByteArray} (h:32<s.size):bA s=false:=by
 unfold bA;rw [decide_eq_false (by omega)];rfl
theorem wi {s:ByteArray} (h:s.size<1):bA s=false:=by
 have h0:s.data.toList=[]:=eq_nil_of_length_eq_zero (by show s.data.toList.length=0;have:s.data.toList.length=s.size:=rfl;omega)
 unfold bA;rw [h0];simp [o8]
theorem qu {s:List UInt8} {c:UInt8} (h:s[0]? =some c) (hn:wh c.toNat=false):o8 s=false:=by
 cases s with
 |nil=>rfl
 |cons d r=>simp at h;subst h;simp [o8,hn]
theorem wj {s:List UInt8} {i:Nat} {c:UInt8} (h:s[i]? =some c) (hn:EL c.toNat=false):o8 s=false:=by
 cases s with
 |nil=>rfl
 |cons d r=>
  cases i with
  |zero=>
   simp at h;subst h
   have:wh d.toNat=false:=Bool.eq_false_iff.2 λ h9=>by rw [O5 h9] at hn;cases hn
   simp [o8,this]
  |succ i=>
   simp at h
   have hm:=mem_of_getElem? h
   have:(r.all λ c=>EL c.toNat)=false:=Bool.eq_false_iff.2 λ h9=>by rw [all_eq_true.1 h9 c hm] at hn;cases hn
   simp [o8,this]
theorem tZ {s:List UInt8} {c:UInt8} (h:s[0]? =some c) (hf:wh c.toNat=true) (hall:∀ i,∀ d,s[i]? =some d->0<i->EL d.toNat=true):o8 s=true:=by
 cases s with
 |nil=>cases h
 |cons d r=>
  simp at h;subst h
  have:(r.all λ c=>EL c.toNat)=true:=all_eq_true.2 λ x hx=>by
   obtain ⟨i,hi⟩:=getElem?_of_mem hx
   exact hall (i+1) x (by simpa using hi) (by omega)
  simp [o8,hf,this]
def bU:Enc (ByteArray×Bool):=⟨2,λ x=>[.string x.1,.bool x.2],λ _=>rfl,λ x u h=>by simp at h;rcases h with rfl|rfl<;>rfl⟩
structure Pc where
 f:Int
 sv:SV
 ns:List ByteArray
def Mw (l:List (ByteArray×Bool)) (i:Nat):Prop:=∀ x,l[i]? =some x->bA x.1=true/\((l.take i).any λ y=>decide (y.1=x.1))=false
def atsOk (l:List (ByteArray×Bool)):Prop:=(∀ i,Mw l i)/\1<=l.length/\l.length<=8
end Go.Kw
