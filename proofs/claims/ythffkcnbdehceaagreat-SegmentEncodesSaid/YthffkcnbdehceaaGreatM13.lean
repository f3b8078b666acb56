/-
 M13:plain facts on ascending lists of different strings (layer 13). No program in sight.
-/
import Derived.Test.YthffkcnbdehceaaGreatM01
import Derived.Test.YthffkcnbdehceaaGreatKp
open Go.Proofs.YthffkcnbdehceaaGreat
open List
set_option linter.unusedVariables false
set_option linter.unusedSimpArgs false
set_option linter.unusedSectionVars false
namespace Go.Kw
section
variable {α:Type} {R:α->α->Prop} [DecidableRel R]
def wR (R:α->α->Prop) [DecidableRel R] (l:List α) (x:α):Nat:=(l.takeWhile λ y=>decide (R y x)).length
def gM (R:α->α->Prop) [DecidableRel R] (l:List α) (x:α):List α:=l.take (wR R l x)++x::l.drop (wR R l x)
theorem AD (l:List α) (x:α):wR R l x<=l.length:=(takeWhile_sublist _).length_le
theorem gj {y x:α} {r:List α} (h:R y x):wR R (y::r) x=wR R r x+1:=by simp [wR,h]
theorem gk {y x:α} {r:List α} (h:¬ R y x):wR R (y::r) x=0:=by simp [wR,h]
theorem GB {x:α}:∀ {l:List α} {k:Nat} {y:α},k<wR R l x->l[k]? =some y->R y x
 |[],k,y,h,hy=>by simp at hy
 |z::r,k,y,h,hy=>by
  by_cases hz:R z x
  ·rw [gj hz] at h
   cases k with
   |zero=>simp at hy;subst hy;exact hz
   |succ k=>exact GB (l:=r) (k:=k) (by omega) (by simpa using hy)
  ·rw [gk hz] at h;omega
theorem GC {x:α}:∀ {l:List α} {y:α},l[wR R l x]? =some y->¬ R y x
 |[],y,hy=>by simp at hy
 |z::r,y,hy=>by
  by_cases hz:R z x
  ·rw [gj hz] at hy
   exact GC (l:=r) (by simpa using hy)
  ·rw [gk hz] at hy
   simp at hy;subst hy;exact hz
theorem vZ {l:List α} {x:α} {k:Nat} (hk:k<=l.length) (h1:∀ j y,j<k->l[j]? =some y->R y x) (h2:∀ y,l[k]? =some y->¬ R y x):wR R l x=k:=by
 rcases Sj (wR R l x) k with h|h|h
 ·have hlt:wR R l x<l.length:=by omega
  exact absurd (h1 _ _ h (py hlt)) (GC (py hlt))
 ·exact h
 ·have hlt:k<l.length:=by have:=AD (R:=R) l x;omega
  exact absurd (GB h (py hlt)) (h2 _ (py hlt))
theorem yz {l:List α} {x y:α}:y∈gM R l x↔y=x\/y∈l:=by
 unfold gM
 rw [PT,PR]
 constructor
 ·rintro (h|h|h)
  ·exact .inr (Q8 h)
  ·exact .inl h
  ·exact .inr (Qi h)
 ·rintro (h|h)
  ·exact .inr (.inl h)
  ·rw [<-Qc (wR R l x) l,PT] at h
   rcases h with h|h
   ·exact .inl h
   ·exact .inr (.inr h)
theorem uj (l:List α) (x:α):(gM R l x).Perm (x::l):=by
 unfold gM
 have h:=TZ (a:=x) (l₁:=l.take (wR R l x)) (l₂:=l.drop (wR R l x))
 rwa [Qc] at h
theorem yA (l:List α) (x:α):(gM R l x).length=l.length+1:=by simpa using (uj (R:=R) l x).length_eq
theorem sY {y x:α} {r:List α} (h:R y x):gM R (y::r) x=y::gM R r x:=by simp [gM,gj h]
theorem sZ {y x:α} {r:List α} (h:¬ R y x):gM R (y::r) x=x::y::r:=by simp [gM,gk h]
theorem rU (tr:∀ {a b c},R a b->R b c->R a c) {x:α}:∀ {l:List α},l.Pairwise R->(∀ y∈l,¬ R y x->R x y)->(gM R l x).Pairwise R
 |[],_,_=>by simp [gM]
 |y::r,hl,hx=>by
  obtain ⟨h1,h2⟩:=Qd.1 hl
  by_cases h:R y x
  ·rw [sY h,Qd]
   refine ⟨λ z hz=> ?_,rU tr h2 λ z hz=>hx z (Qr _ hz)⟩
   rcases yz.1 hz with rfl|hz
   ·exact h
   ·exact h1 z hz
  ·have hxy:=hx y (QD ..) h
   rw [sZ h,Qd]
   refine ⟨λ z hz=> ?_,hl⟩
   rcases PR.1 hz with rfl|hz
   ·exact hxy
   ·exact tr hxy (h1 z hz)
theorem mD (irr:∀ a,¬ R a a) (tr:∀ {a b c},R a b->R b c->R a c):∀ {a b:List α},a.Pairwise R->b.Pairwise R->(∀ x,x∈a↔x∈b)->a=b
 |[],[],_,_,_=>rfl
 |[],y::r,_,_,h=>by have:=(h y).2 (QD ..);cases this
 |x::r,[],_,_,h=>by have:=(h x).1 (QD ..);cases this
 |x::r,y::s,ha,hb,h=>by
  obtain ⟨a1,a2⟩:=Qd.1 ha
  obtain ⟨b1,b2⟩:=Qd.1 hb
  have hxy:x=y:=by
   rcases PR.1 ((h x).1 (QD ..)) with e|e
   ·exact e
   ·rcases PR.1 ((h y).2 (QD ..)) with e'|e'
    ·exact e'.symm
    ·exact absurd (tr (a1 y e') (b1 x e)) (irr x)
  subst hxy
  rw [mD irr tr a2 b2 λ z=> ?_]
  constructor
  ·intro hz
   rcases PR.1 ((h z).1 (Qr _ hz)) with e|e
   ·subst e;exact absurd (a1 z hz) (irr z)
   ·exact e
  ·intro hz
   rcases PR.1 ((h z).2 (Qr _ hz)) with e|e
   ·subst e;exact absurd (b1 z hz) (irr z)
   ·exact e
theorem BU (irr:∀ a,¬ R a a) (asy:∀ {a b},R a b->¬ R b a) {x:α}:∀ {l:List α},l.Pairwise R->x∈l->l[wR R l x]? =some x
 |[],_,h=>by cases h
 |y::r,hl,h=>by
  obtain ⟨h1,h2⟩:=Qd.1 hl
  rcases PR.1 h with rfl|h
  ·rw [gk (irr _)];rfl
  ·rw [gj (h1 x h)];simpa using BU irr asy h2 h
end
def SLt (a b:ByteArray):Prop:=a.data.toList<b.data.toList
instance:DecidableRel SLt:=λ a b=>inferInstanceAs (Decidable (a.data.toList<b.data.toList))
theorem j2 {a b:ByteArray} (h:a.data.toList=b.data.toList):a=b:=by
 obtain ⟨⟨x⟩⟩:=a;obtain ⟨⟨y⟩⟩:=b
 simp at h;rw [h]
theorem SLt.sD (a:ByteArray):¬ SLt a a:=List.lt_irrefl _
theorem SLt.tr {a b c:ByteArray} (h:SLt a b) (k:SLt b c):SLt a c:=List.lt_trans h k
theorem SLt.ML {a b:ByteArray} (h:SLt a b):¬ SLt b a:=λ k=>SLt.sD a (h.tr k)
theorem SLt.HT {a b:ByteArray} (h:¬ SLt a b) (k:a≠b):SLt b a:=by
 rcases SN (SLt b a) with h'|h'
 ·exact h'
 ·exact absurd (j2 (List.le_antisymm (List.not_lt.1 h') (List.not_lt.1 h))) k
abbrev Asc (l:List ByteArray):Prop:=l.Pairwise SLt
abbrev bJ (l:List ByteArray) (w:ByteArray):Nat:=wR SLt l w
theorem Asc.eq {a b:List ByteArray} (ha:Asc a) (hb:Asc b) (h:∀ x,x∈a↔x∈b):a=b:=mD SLt.sD SLt.tr ha hb h
theorem Asc.get {l:List ByteArray} (h:Asc l) {w:ByteArray} (hw:w∈l):l[bJ l w]? =some w:=BU SLt.sD SLt.ML h hw
theorem Asc.ins {l:List ByteArray} (h:Asc l) {w:ByteArray} (hw:w∉l):Asc (gM SLt l w):=rU (R:=SLt) (λ h k=>SLt.tr h k) h λ y hy hn=>SLt.HT hn λ (e:y=w)=>hw (e▸hy)
theorem Asc.lt {l:List ByteArray} (h:Asc l) {i j:Nat} {x y:ByteArray} (hx:l[i]? =some x) (hy:l[j]? =some y) (hij:i<j):SLt x y:=by
 obtain ⟨h1,rfl⟩:=AT.1 hx
 obtain ⟨h2,rfl⟩:=AT.1 hy
 exact QS.1 h i j h1 h2 hij
theorem Asc.inj {l:List ByteArray} (h:Asc l) {i j:Nat} {x:ByteArray} (hx:l[i]? =some x) (hy:l[j]? =some x):i=j:=by
 rcases Sj i j with e|e|e
 ·exact absurd (h.lt hx hy e) (SLt.sD x)
 ·exact e
 ·exact absurd (h.lt hy hx e) (SLt.sD x)
theorem rV {α:Type} {M:List α->Prop} (h0:M []) (h1:∀ l x,M l->M (l++[x])) (l:List α):M l:=by
 have:∀ r:List α,M r.reverse:=λ r=>by
  induction r with
  |nil=>exact h0
  |cons x r ih=>rw [reverse_cons];exact h1 _ _ ih
 simpa using this l.reverse
def fQ (vs:List ByteArray) (w:ByteArray):Nat:=vs.countP λ x=>decide (x=w)
theorem kC (vs:List ByteArray) (v w:ByteArray):fQ (vs++[v]) w=fQ vs w+(if v=w then 1 else 0):=by
 simp only [fQ,TG,countP_cons,countP_nil,QC];omega
theorem GD {vs:List ByteArray} {w:ByteArray} (h:w∉vs):fQ vs w=0:=T6.2 λ x hx=>by simp;exact λ e=>h (e▸hx)
theorem JC {vs:List ByteArray} {w:ByteArray} (h:w∈vs):1<=fQ vs w:=countP_pos_iff.2 ⟨w,h,by simp⟩
theorem GF (vs:List ByteArray) (w:ByteArray):fQ vs w<=vs.length:=TV
def addW (W:List ByteArray) (v:ByteArray):List ByteArray:=if W[bJ W v]? =some v then W else gM SLt W v
def a8 (vs:List ByteArray):List ByteArray:=vs.foldl addW []
def ar (vs:List ByteArray):List Nat:=(a8 vs).map (fQ vs)
theorem cy (vs:List ByteArray) (v:ByteArray):a8 (vs++[v])=addW (a8 vs) v:=by simp [a8]
theorem DH {W:List ByteArray} (h:Asc W) (v:ByteArray):Asc (addW W v)/\∀ x,x∈addW W v↔x=v\/x∈W:=by
 unfold addW
 split
 ·rename_i hk
  have hm:=PO hk
  exact ⟨h,λ x=>⟨.inr,λ hx=>hx.elim (λ e=>e▸hm) id⟩⟩
 ·rename_i hk
  have hn:v∉W:=λ hm=>hk (h.get hm)
  exact ⟨h.ins hn,λ x=>yz⟩
theorem pF (vs:List ByteArray):Asc (a8 vs)/\∀ x,x∈a8 vs↔x∈vs:=by
 induction vs using rV with
 |h0=>exact ⟨List.Pairwise.nil,λ x=>Iff.rfl⟩
 |h1 vs v ih=>
  rw [cy]
  obtain ⟨h1,h2⟩:=DH ih.1 v
  refine ⟨h1,λ x=> ?_⟩
  rw [h2,ih.2,PT,Q0]
  exact Or.comm
theorem dM (vs:List ByteArray):Asc (a8 vs):=(pF vs).1
theorem cB {vs:List ByteArray} {x:ByteArray}:x∈a8 vs↔x∈vs:=(pF vs).2 x
theorem jy {vs:List ByteArray} {v:ByteArray} (h:v∈vs):(a8 vs)[bJ (a8 vs) v]? =some v:=(dM vs).get (cB.2 h)
theorem yB (W:List ByteArray) (v:ByteArray):W.length<=(addW W v).length/\(addW W v).length<=W.length+1:=by
 unfold addW
 split
 ·omega
 ·rw [yA];omega
theorem bI (vs:List ByteArray):(a8 vs).length<=vs.length:=by
 induction vs using rV with
 |h0=>simp [a8]
 |h1 vs v ih=>
  rw [cy,sp]
  have:=(yB (a8 vs) v).2
  simp;omega
theorem eU (vs:List ByteArray):(ar vs).length=(a8 vs).length:=by simp [ar]
theorem nR {vs:List ByteArray} {v:ByteArray} (h:(a8 vs)[bJ (a8 vs) v]? =some v):
  ∃ c,(ar vs)[bJ (a8 vs) v]? =some c/\ar (vs++[v])=(ar vs).set (bJ (a8 vs) v) (c+1):=by
 refine ⟨fQ vs v,by simp [ar,h],?_⟩
 have e:a8 (vs++[v])=a8 vs:=by rw [cy,addW,PI h]
 unfold ar
 rw [e]
 have hlt:=(AT.1 h).1
 apply RM
 intro j
 rw [R7]
 by_cases hj:bJ (a8 vs) v=j
 ·subst hj
  rw [PI rfl,PX,h,PI (by simpa using hlt)]
  simp [kC]
 ·rw [M2 hj,PX,PX]
  cases hx:(a8 vs)[j]? with
  |none=>rfl
  |some x=>
   have:v≠x:=λ e=>hj ((dM vs).inj h (e▸hx))
   simp [kC,this]
theorem gN {vs:List ByteArray} {v:ByteArray} (h:¬ (a8 vs)[bJ (a8 vs) v]? =some v):
  ar (vs++[v])=(ar vs).take (bJ (a8 vs) v)++1::(ar vs).drop (bJ (a8 vs) v):=by
 have hn:v∉vs:=λ hm=>h (jy hm)
 have e:a8 (vs++[v])=gM SLt (a8 vs) v:=by rw [cy,addW,M2 h]
 unfold ar
 rw [e,gM,Ql,Qm,<-Sr,<-map_drop]
 have e1:∀ l:List ByteArray,(∀ x∈l,x∈a8 vs)->l.map (fQ (vs++[v]))=l.map (fQ vs):=λ l hl=>Rs λ x hx=>by
  have:v≠x:=λ e=>hn (e▸cB.1 (hl x hx))
  simp [kC,this]
 rw [e1 _ λ x hx=>Q8 hx,e1 _ λ x hx=>Qi hx,kC,PI rfl,GD hn]
theorem pM {vs K:List ByteArray} (hn:K.Nodup) (hm:∀ x,x∈K↔x∈vs):
  (((K.map λ s=>s.data.toList).mergeSort λ x y=>decide (x<=y)).map λ l=>(⟨l.toArray⟩:ByteArray))=a8 vs:=by
 have hp:=mergeSort_perm (K.map λ s=>s.data.toList) (λ x y=>decide (x<=y))
 have hs:((K.map λ s=>s.data.toList).mergeSort λ x y=>decide (x<=y)).Pairwise λ x y=>decide (x<=y)=true:=pairwise_mergeSort (λ a b c h1 h2=>by simp at*;exact List.le_trans h1 h2) (λ a b=>by simp;exact List.le_total a b) _
 have hnd:((K.map λ s=>s.data.toList).mergeSort λ x y=>decide (x<=y)).Nodup:=by
  refine (List.Perm.nodup_iff hp).2 ?_
  rw [List.Nodup,Tp]
  exact hn.imp λ h e=>h (j2 e)
 refine Asc.eq ?_ (dM vs) λ x=> ?_
 ·show List.Pairwise SLt _
  rw [Tp]
  refine (hs.and hnd).imp λ {a b} h=> ?_
  obtain ⟨h1,h2⟩:=h
  show a<b
  simp at h1
  rcases SN (a<b) with h3|h3
  ·exact h3
  ·exact absurd (List.le_antisymm h1 (List.not_lt.1 h3)) h2
 ·rw [cB,<-hm,Qn]
  constructor
  ·rintro ⟨l,hl,rfl⟩
   obtain ⟨s,hs',rfl⟩:=Qn.1 (hp.mem_iff.1 hl)
   have:(⟨s.data.toList.toArray⟩:ByteArray)=s:=by simp
   rw [this];exact hs'
  ·intro hx
   exact ⟨x.data.toList,hp.mem_iff.2 (Qn.2 ⟨x,hx,rfl⟩),by simp⟩
def qm (W:List ByteArray) (i:Nat):ByteArray:=vz (W.getD i ByteArray.empty)
def HR (W:List ByteArray) (i j:Nat):Prop:=SLt (qm W i) (qm W j)
instance (W:List ByteArray):DecidableRel (HR W):=λ i j=>inferInstanceAs (Decidable (SLt _ _))
def okW (W:List ByteArray):Prop:=Asc W/\∀ w∈W,dw w=true
theorem okW.MF {W:List ByteArray} (h:okW W) {i j:Nat} (hi:i<W.length) (hj:j<W.length) (e:qm W i=qm W j):i=j:=by
 have hi':W[i]? =some W[i]:=py hi
 have hj':W[j]? =some W[j]:=py hj
 have e1:W.getD i ByteArray.empty=W[i]:=by simp [KW,hi']
 have e2:W.getD j ByteArray.empty=W[j]:=by simp [KW,hj']
 unfold qm at e
 rw [e1,e2] at e
 have:=FC (h.2 _ (SE hi)) (h.2 _ (SE hj)) e
 exact h.1.inj hi' (by rw [hj',<-this])
theorem okW.HT {W:List ByteArray} (h:okW W) {i j:Nat} (hi:i<W.length) (hj:j<W.length) (hne:i≠j) (hn:¬ HR W i j):HR W j i:=SLt.HT hn λ e=>hne (h.MF hi hj e)
def yC (W:List ByteArray) (n:Nat):List Nat:=(List.range n).foldl (gM (HR W)) []
def ordN (W:List ByteArray):List Nat:=yC W W.length
theorem uk (W:List ByteArray) (n:Nat):yC W (n+1)=gM (HR W) (yC W n) n:=by simp [yC,Ru]
theorem oO (W:List ByteArray):∀ n,(yC W n).Perm (List.range n)
 |0=>by simp [yC]
 |n+1=>by
  rw [uk,Ru]
  exact (uj _ _).trans (((oO W n).cons n).trans (perm_append_singleton n (List.range n)).symm)
theorem yD {W:List ByteArray} (h:okW W):∀ n,n<=W.length->(yC W n).Pairwise (HR W)
 |0,_=>by simp [yC]
 |n+1,hn=>by
  rw [uk]
  refine rU (R:=HR W) (λ h1 h2=>SLt.tr h1 h2) (yD h n (by omega)) λ y hy hny=> ?_
  have:=SD.1 ((oO W n).mem_iff.1 hy)
  exact h.HT (by omega) (by omega) (by omega) hny
theorem DI (W:List ByteArray):(ordN W).Perm (List.range W.length):=oO W _
theorem GG {W:List ByteArray} {i:Nat}:i∈ordN W↔i<W.length:=by rw [(DI W).mem_iff,SD]
theorem yE {W:List ByteArray} (h:okW W) {l:List Nat} (hp:l.Perm (List.range W.length)) (hs:l.Pairwise λ i j=>¬ HR W j i):l=ordN W:=by
 have hnd:l.Nodup:=hp.nodup_iff.2 nodup_range
 refine mD (R:=HR W) (λ a=>SLt.sD _) (λ h1 h2=>SLt.tr h1 h2) ?_ (yD h _ (KB _)) λ x=> ?_
 ·have hm:∀ x∈l,x<W.length:=λ x hx=>SD.1 (hp.mem_iff.1 hx)
  rw [QS] at hs⊢
  intro i j hi hj hij
  refine h.HT (hm _ (SE hj)) (hm _ (SE hi)) (λ e=> ?_) (hs i j hi hj hij)
  have:=(getElem?_inj hj hnd (j:=i)).1 (by rw [py hj,py hi,e])
  omega
 ·rw [hp.mem_iff,SD,GG]
def um (c:Nat):Bool:=decide (c=95\/(65<=c/\c<=90)\/(97<=c/\c<=122))
def E2 (c:Nat):Bool:=decide (um c=true\/(48<=c/\c<=57)\/c=45)
theorem Ny {c:Nat} (h:um c=true):E2 c=true:=PM (.inl h)
def nS (s:List UInt8):Bool:=match s with
 |[]=>false
 |c::r=>um c.toNat&&r.all λ c=>E2 c.toNat
def bC (s:ByteArray):Bool:=decide (s.size<=32)&&nS s.data.toList
theorem rW {s:ByteArray} (h:32<s.size):bC s=false:=by
 unfold bC;rw [IN (by omega)];rfl
theorem uq {s:ByteArray} (h:s.size<1):bC s=false:=by
 have h0:s.data.toList=[]:=Q2 (by show s.data.toList.length=0;have:s.data.toList.length=s.size:=rfl;omega)
 unfold bC;rw [h0];simp [nS]
theorem pG {s:List UInt8} {c:UInt8} (h:s[0]? =some c) (hn:um c.toNat=false):nS s=false:=by
 cases s with
 |nil=>rfl
 |cons d r=>simp at h;subst h;simp [nS,hn]
theorem ur {s:List UInt8} {i:Nat} {c:UInt8} (h:s[i]? =some c) (hn:E2 c.toNat=false):nS s=false:=by
 cases s with
 |nil=>rfl
 |cons d r=>
  cases i with
  |zero=>
   simp at h;subst h
   have:um d.toNat=false:=Tz.2 λ h9=>by rw [Ny h9] at hn;cases hn
   simp [nS,this]
  |succ i=>
   simp at h
   have hm:=PO h
   have:(r.all λ c=>E2 c.toNat)=false:=Tz.2 λ h9=>by rw [Qt.1 h9 c hm] at hn;cases hn
   simp [nS,this]
theorem rX {s:List UInt8} {c:UInt8} (h:s[0]? =some c) (hf:um c.toNat=true) (hall:∀ i,∀ d,s[i]? =some d->0<i->E2 d.toNat=true):nS s=true:=by
 cases s with
 |nil=>cases h
 |cons d r=>
  simp at h;subst h
  have:(r.all λ c=>E2 c.toNat)=true:=Qt.2 λ x hx=>by
   obtain ⟨i,hi⟩:=Qh hx
   exact hall (i+1) x (by simpa using hi) (by omega)
  simp [nS,hf,this]
def cE:Enc (ByteArray×Bool):=⟨2,λ x=>[.string x.1,.bool x.2],λ _=>rfl,λ x u h=>by simp at h;rcases h with rfl|rfl<;>rfl⟩
structure Pc where
 f:Int
 sv:SV
 ns:List ByteArray
def LZ (l:List (ByteArray×Bool)) (i:Nat):Prop:=∀ x,l[i]? =some x->bC x.1=true/\((l.take i).any λ y=>decide (y.1=x.1))=false
def atsOk (l:List (ByteArray×Bool)):Prop:=(∀ i,LZ l i)/\1<=l.length/\l.length<=8
end Go.Kw
