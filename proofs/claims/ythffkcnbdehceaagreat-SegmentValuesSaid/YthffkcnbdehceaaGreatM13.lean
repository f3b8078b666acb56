/-
 M13:plain facts on ascending lists of different strings (layer 13). No program in sight.
-/
import Derived.Test.YthffkcnbdehceaaGreatM01
import Derived.Test.YthffkcnbdehceaaGreatKp
set_option linter.all false
open Go.Proofs.YthffkcnbdehceaaGreat
open List
namespace Go.Kw
section
variable {α:Type} {R:α->α->Prop} [DecidableRel R]
def xM(R:α->α->Prop)[DecidableRel R](l:List α)(x:α):Nat:=(l.takeWhile λ y=>decide (R y x)).length
def jl(R:α->α->Prop)[DecidableRel R](l:List α)(x:α):List α:=l.take (xM R l x)++x::l.drop (xM R l x)
def BA(l:List α)(x:α):xM R l x<=l.length:=(takeWhile_sublist _).length_le
def gE{y x:α}{r:List α}(h:R y x):xM R (y::r) x=xM R r x+1:=by simp[xM,h]
def gG{y x:α}{r:List α}(h:¬ R y x):xM R (y::r) x=0:=by simp[xM,h]
def HQ{x:α}:∀ {l:List α} {k:Nat} {y:α},k<xM R l x->l[k]? =some y->R y x
 |[],k,y,h,hy=>by simp at hy
 |z::r,k,y,h,hy=>by
  by_cases hz:R z x
  ·rw[gE hz]at h;cases k with
   |zero=>simp at hy;subst hy;exact hz
   |succ k=>exact HQ (l:=r) (k:=k) (by omega) (by simpa using hy)
  ·rw[gG hz]at h;omega
def HR{x:α}:∀ {l:List α} {y:α},l[xM R l x]? =some y->¬ R y x
 |[],y,hy=>by simp at hy
 |z::r,y,hy=>by
  by_cases hz:R z x
  ·rw[gE hz]at hy;exact HR (l:=r) (by simpa using hy)
  ·rw[gG hz]at hy;simp at hy;subst hy;exact hz
def xd{l:List α}{x:α}{k:Nat}(hk:k<=l.length)(h1:∀ j y,j<k->l[j]? =some y->R y x)(h2:∀ y,l[k]? =some y->¬ R y x):xM R l x=k:=by
 rcases U5 (xM R l x) k with h|h|h
 ·have hlt:xM R l x<l.length:=by omega
  exact absurd (h1 _ _ h (py hlt)) (HR (py hlt))
 ·exact h
 ·have hlt:k<l.length:=by have:=BA (R:=R) l x;omega
  exact absurd (HQ h (py hlt)) (h2 _ (py hlt))
def zw{l:List α}{x y:α}:y∈jl R l x↔y=x\/y∈l:=by
 unfold jl;rw[RE,Rx];constructor
 ·rintro(h|h|h)
  ·exact .inr (RZ h)
  ·exact .inl h
  ·exact .inr (Sv h)
 ·rintro(h|h)
  ·exact .inr (.inl h)
  ·rw[<-RY (xM R l x) l,RE]at h;rcases h with h|h
   ·exact .inl h
   ·exact .inr (.inr h)
def vB(l:List α)(x:α):(jl R l x).Perm (x::l):=by
 unfold jl;have h:=VQ (a:=x) (l₁:=l.take (xM R l x)) (l₂:=l.drop (xM R l x));rwa[RY]at h
def zx(l:List α)(x:α):(jl R l x).length=l.length+1:=by simpa using(vB (R:=R) l x).length_eq
def u3{y x:α}{r:List α}(h:R y x):jl R (y::r) x=y::jl R r x:=by simp[jl,gE h]
def u4{y x:α}{r:List α}(h:¬ R y x):jl R (y::r) x=x::y::r:=by simp[jl,gG h]
def sH(tr:∀ {a b c},R a b->R b c->R a c){x:α}:∀ {l:List α},l.Pairwise R->(∀ y∈l,¬ R y x->R x y)->(jl R l x).Pairwise R
 |[],_,_=>by simp[jl]
 |y::r,hl,hx=>by
  obtain⟨h1,h2⟩:=Sb.1 hl;by_cases h:R y x
  ·rw[u3 h,Sb];refine⟨λ z hz=>?_,sH tr h2 λ z hz=>hx z (Sl _ hz)⟩;rcases zw.1 hz with rfl|hz
   ·exact h
   ·exact h1 z hz
  ·have hxy:=hx y (SI ..) h;rw[u4 h,Sb];refine⟨λ z hz=>?_,hl⟩;rcases Rx.1 hz with rfl|hz
   ·exact hxy
   ·exact tr hxy (h1 z hz)
def mK(irr:∀ a,¬ R a a)(tr:∀ {a b c},R a b->R b c->R a c):∀ {a b:List α},a.Pairwise R->b.Pairwise R->(∀ x,x∈a↔x∈b)->a=b
 |[],[],_,_,_=>rfl
 |[],y::r,_,_,h=>by have:=(h y).2 (SI ..);cases this
 |x::r,[],_,_,h=>by have:=(h x).1 (SI ..);cases this
 |x::r,y::s,ha,hb,h=>by
  obtain⟨a1,a2⟩:=Sb.1 ha;obtain⟨b1,b2⟩:=Sb.1 hb;have hxy:x=y:=by
   rcases Rx.1 ((h x).1 (SI ..))with e|e
   ·exact e
   ·rcases Rx.1 ((h y).2 (SI ..))with e'|e'
    ·exact e'.symm
    ·exact absurd (tr (a1 y e') (b1 x e)) (irr x)
  subst hxy;rw[mK irr tr a2 b2 λ z=>?_];constructor
  ·intro hz;rcases Rx.1 ((h z).1 (Sl _ hz))with e|e
   ·subst e;exact absurd (a1 z hz) (irr z)
   ·exact e
  ·intro hz;rcases Rx.1 ((h z).2 (Sl _ hz))with e|e
   ·subst e;exact absurd (b1 z hz) (irr z)
   ·exact e
def CO(irr:∀ a,¬ R a a)(asy:∀ {a b},R a b->¬ R b a){x:α}:∀ {l:List α},l.Pairwise R->x∈l->l[xM R l x]? =some x
 |[],_,h=>by cases h
 |y::r,hl,h=>by
  obtain⟨h1,h2⟩:=Sb.1 hl;rcases Rx.1 h with rfl|h
  ·rw[gG (irr _)];rfl
  ·rw[gE (h1 x h)];simpa using CO irr asy h2 h
end
def SLt(a b:ByteArray):Prop:=a.data.toList<b.data.toList
instance:DecidableRel SLt:=λ a b=>inferInstanceAs (Decidable (a.data.toList<b.data.toList))
def jm{a b:ByteArray}(h:a.data.toList=b.data.toList):a=b:=by
 obtain⟨⟨x⟩⟩:=a;obtain⟨⟨y⟩⟩:=b;simp at h;rw[h]
def SLt.qU(a:ByteArray):¬ SLt a a:=List.lt_irrefl _
def SLt.tr{a b c:ByteArray}(h:SLt a b)(k:SLt b c):SLt a c:=List.lt_trans h k
def SLt.OO{a b:ByteArray}(h:SLt a b):¬ SLt b a:=λ k=>SLt.qU a (h.tr k)
theorem SLt.Jr{a b:ByteArray}(h:¬ SLt a b)(k:a≠b):SLt b a:=by
 rcases Ub (SLt b a)with h'|h'
 ·exact h'
 ·exact absurd (jm (List.le_antisymm (List.not_lt.1 h') (List.not_lt.1 h))) k
abbrev Asc(l:List ByteArray):Prop:=l.Pairwise SLt
abbrev di(l:List ByteArray)(w:ByteArray):Nat:=xM SLt l w
def Asc.eq{a b:List ByteArray}(ha:Asc a)(hb:Asc b)(h:∀ x,x∈a↔x∈b):a=b:=mK SLt.qU SLt.tr ha hb h
theorem Asc.get{l:List ByteArray}(h:Asc l){w:ByteArray}(hw:w∈l):l[di l w]? =some w:=CO SLt.qU SLt.OO h hw
theorem Asc.ins{l:List ByteArray}(h:Asc l){w:ByteArray}(hw:w∉l):Asc (jl SLt l w):=sH (R:=SLt) (λ h k=>SLt.tr h k) h λ y hy hn=>SLt.Jr hn λ(e:y=w)=>hw (e▸hy)
def Asc.lt{l:List ByteArray}(h:Asc l){i j:Nat}{x y:ByteArray}(hx:l[i]? =some x)(hy:l[j]? =some y)(hij:i<j):SLt x y:=by
 obtain⟨h1,rfl⟩:=IN.1 hx;obtain⟨h2,rfl⟩:=IN.1 hy;exact SQ.1 h i j h1 h2 hij
def Asc.inj{l:List ByteArray}(h:Asc l){i j:Nat}{x:ByteArray}(hx:l[i]? =some x)(hy:l[j]? =some x):i=j:=by
 rcases U5 i j with e|e|e
 ·exact absurd (h.lt hx hy e) (SLt.qU x)
 ·exact e
 ·exact absurd (h.lt hy hx e) (SLt.qU x)
def sI{α:Type}{M:List α->Prop}(h0:M [])(h1:∀ l x,M l->M (l++[x]))(l:List α):M l:=by
 have:∀ r:List α,M r.reverse:=λ r=>by
  induction r with
  |nil=>exact h0
  |cons x r ih=>rw[reverse_cons];exact h1 _ _ ih
 simpa using this l.reverse
def gm(vs:List ByteArray)(w:ByteArray):Nat:=vs.countP λ x=>decide (x=w)
def l4(vs:List ByteArray)(v w:ByteArray):gm (vs++[v]) w=gm vs w+(if v=w then 1 else 0):=by
 simp only[gm,V6,VO,countP_nil,Ss];omega
def HS{vs:List ByteArray}{w:ByteArray}(h:w∉vs):gm vs w=0:=UT.2 λ x hx=>by simp;exact λ e=>h (e▸hx)
def L9{vs:List ByteArray}{w:ByteArray}(h:w∈vs):1<=gm vs w:=countP_pos_iff.2 ⟨w,h,by simp⟩
def HT(vs:List ByteArray)(w:ByteArray):gm vs w<=vs.length:=Va
def addW(W:List ByteArray)(v:ByteArray):List ByteArray:=if W[di W v]? =some v then W else jl SLt W v
def aa(vs:List ByteArray):List ByteArray:=vs.foldl addW []
def aG(vs:List ByteArray):List Nat:=(aa vs).map (gm vs)
def dB(vs:List ByteArray)(v:ByteArray):aa (vs++[v])=addW (aa vs) v:=by simp[aa]
def F7{W:List ByteArray}(h:Asc W)(v:ByteArray):Asc (addW W v)/\∀ x,x∈addW W v↔x=v\/x∈W:=by
 unfold addW;split
 ·rename_i hk
  have hm:=Rv hk;exact⟨h,λ x=>⟨.inr,λ hx=>hx.elim (λ e=>e▸hm) id⟩⟩
 ·rename_i hk
  have hn:v∉W:=λ hm=>hk (h.get hm);exact⟨h.ins hn,λ x=>zw⟩
def qg(vs:List ByteArray):Asc (aa vs)/\∀ x,x∈aa vs↔x∈vs:=by
 induction vs using sI with
 |h0=>exact⟨List.Pairwise.nil,λ x=>Iff.rfl⟩
 |h1 vs v ih=>
  rw[dB];obtain⟨h1,h2⟩:=F7 ih.1 v;refine⟨h1,λ x=>?_⟩;rw[h2,ih.2,RE,RL];exact Or.comm
def cw(vs:List ByteArray):Asc (aa vs):=(qg vs).1
def bK{vs:List ByteArray}{x:ByteArray}:x∈aa vs↔x∈vs:=(qg vs).2 x
def jZ{vs:List ByteArray}{v:ByteArray}(h:v∈vs):(aa vs)[di (aa vs) v]? =some v:=(cw vs).get (bK.2 h)
def zy(W:List ByteArray)(v:ByteArray):W.length<=(addW W v).length/\(addW W v).length<=W.length+1:=by
 unfold addW;split
 ·omega
 ·rw[zx];omega
def bm(vs:List ByteArray):(aa vs).length<=vs.length:=by
 induction vs using sI with
 |h0=>simp[aa]
 |h1 vs v ih=>
  rw[dB,sp];have:=(zy (aa vs) v).2;simp;omega
def fb(vs:List ByteArray):(aG vs).length=(aa vs).length:=by simp[aG]
def nX{vs:List ByteArray}{v:ByteArray}(h:(aa vs)[di (aa vs) v]? =some v):
  ∃ c,(aG vs)[di (aa vs) v]? =some c/\aG (vs++[v])=(aG vs).set (di (aa vs) v) (c+1):=by
 refine⟨gm vs v,by simp[aG,h],?_⟩;have e:aa (vs++[v])=aa vs:=by rw[dB,addW,No h]
 unfold aG;rw[e];have hlt:=(IN.1 h).1;apply TL;intro j;rw[T8];by_cases hj:di (aa vs) v=j
 ·subst hj;rw[No Y,Rz,h,No (by simpa using hlt)];simp[l4]
 ·rw[M2 hj,Rz,Rz];cases hx:(aa vs)[j]? with
  |none=>rfl
  |some x=>
   have:v≠x:=λ e=>hj ((cw vs).inj h (e▸hx));simp[l4,this]
def sJ{vs:List ByteArray}{v:ByteArray}(h:¬ (aa vs)[di (aa vs) v]? =some v):
  aG (vs++[v])=(aG vs).take (di (aa vs) v)++1::(aG vs).drop (di (aa vs) v):=by
 have hn:v∉vs:=λ hm=>h (jZ hm);have e:aa (vs++[v])=jl SLt (aa vs) v:=by rw[dB,addW,M2 h]
 unfold aG;rw[e,jl,Si,Sg,<-Ue,<-map_drop];have e1:∀ l:List ByteArray,(∀ x∈l,x∈aa vs)->l.map (gm (vs++[v]))=l.map (gm vs):=λ l hl=>TD λ x hx=>by
  have:v≠x:=λ e=>hn (e▸bK.1 (hl x hx));simp[l4,this]
 rw[e1 _ λ x hx=>RZ hx,e1 _ λ x hx=>Sv hx,l4,No Y,HS hn]
def qq{vs K:List ByteArray}(hn:K.Nodup)(hm:∀ x,x∈K↔x∈vs):
  (((K.map λ s=>s.data.toList).mergeSort λ x y=>decide (x<=y)).map λ l=>(⟨l.toArray⟩:ByteArray))=aa vs:=by
 have hp:=mergeSort_perm (K.map λ s=>s.data.toList) (λ x y=>decide (x<=y));have hs:((K.map λ s=>s.data.toList).mergeSort λ x y=>decide (x<=y)).Pairwise λ x y=>decide (x<=y)=true:=pairwise_mergeSort (λ a b c h1 h2=>by simp at*;exact List.le_trans h1 h2) (λ a b=>by simp;exact List.le_total a b) _;have hnd:((K.map λ s=>s.data.toList).mergeSort λ x y=>decide (x<=y)).Nodup:=by
  refine(List.Perm.nodup_iff hp).2 ?_;rw[List.Nodup,Vf];exact hn.imp λ h e=>h (jm e)
 refine Asc.eq ?_ (cw vs) λ x=>?_
 ·show List.Pairwise SLt _;rw[Vf];refine(hs.and hnd).imp λ{a b} h=>?_;obtain⟨h1,h2⟩:=h;show a<b;simp at h1;rcases Ub (a<b)with h3|h3
  ·exact h3
  ·exact absurd (List.le_antisymm h1 (List.not_lt.1 h3)) h2
 ·rw[bK,<-hm,Sk];constructor
  ·rintro⟨l,hl,rfl⟩;obtain⟨s,hs',rfl⟩:=Sk.1 (hp.mem_iff.1 hl);have:(⟨s.data.toList.toArray⟩:ByteArray)=s:=by simp
   rw[this];exact hs'
  ·intro hx;exact⟨x.data.toList,hp.mem_iff.2 (Sk.2 ⟨x,hx,Y⟩),by simp⟩
def qG(W:List ByteArray)(i:Nat):ByteArray:=wP (W.getD i ByteArray.empty)
def Jn(W:List ByteArray)(i j:Nat):Prop:=SLt (qG W i) (qG W j)
instance(W:List ByteArray):DecidableRel (Jn W):=λ i j=>inferInstanceAs (Decidable (SLt _ _))
def okW(W:List ByteArray):Prop:=Asc W/\∀ w∈W,dD w=true
def okW.OC{W:List ByteArray}(h:okW W){i j:Nat}(hi:i<W.length)(hj:j<W.length)(e:qG W i=qG W j):i=j:=by
 have hi':W[i]? =some W[i]:=py hi;have hj':W[j]? =some W[j]:=py hj;have e1:W.getD i ByteArray.empty=W[i]:=by simp[KP,hi']
 have e2:W.getD j ByteArray.empty=W[j]:=by simp[KP,hj']
 unfold qG at e;rw[e1,e2]at e;have:=Hc (h.2 _ (Uu hi)) (h.2 _ (Uu hj)) e;exact h.1.inj hi' (by rw[hj',<-this])
theorem okW.Jr{W:List ByteArray}(h:okW W){i j:Nat}(hi:i<W.length)(hj:j<W.length)(hne:i≠j)(hn:¬ Jn W i j):Jn W j i:=SLt.Jr hn λ e=>hne (h.OC hi hj e)
def zz(W:List ByteArray)(n:Nat):List Nat:=(List.range n).foldl (jl (Jn W)) []
def ordN(W:List ByteArray):List Nat:=zz W W.length
def vC(W:List ByteArray)(n:Nat):zz W (n+1)=jl (Jn W) (zz W n) n:=by simp[zz,To]
def pn(W:List ByteArray):∀ n,(zz W n).Perm (List.range n)
 |0=>by simp[zz]
 |n+1=>by
  rw[vC,To];exact(vB _ _).trans (((pn W n).cons n).trans (perm_append_singleton n (List.range n)).symm)
def zA{W:List ByteArray}(h:okW W):∀ n,n<=W.length->(zz W n).Pairwise (Jn W)
 |0,_=>by simp[zz]
 |n+1,hn=>by
  rw[vC];refine sH (R:=Jn W) (λ h1 h2=>SLt.tr h1 h2) (zA h n (by omega)) λ y hy hny=>?_;have:=Ut.1 ((pn W n).mem_iff.1 hy);exact h.Jr (by omega) (by omega) (by omega) hny
def F8(W:List ByteArray):(ordN W).Perm (List.range W.length):=pn W _
def HU{W:List ByteArray}{i:Nat}:i∈ordN W↔i<W.length:=by rw[(F8 W).mem_iff,Ut]
def zB{W:List ByteArray}(h:okW W){l:List Nat}(hp:l.Perm (List.range W.length))(hs:l.Pairwise λ i j=>¬ Jn W j i):l=ordN W:=by
 have hnd:l.Nodup:=hp.nodup_iff.2 nodup_range;refine mK (R:=Jn W) (λ a=>SLt.qU _) (λ h1 h2=>SLt.tr h1 h2) ?_ (zA h _ (KD _)) λ x=>?_
 ·have hm:∀ x∈l,x<W.length:=λ x hx=>Ut.1 (hp.mem_iff.1 hx);rw[SQ]at hs⊢;intro i j hi hj hij;refine h.Jr (hm _ (Uu hj)) (hm _ (Uu hi)) (λ e=>?_) (hs i j hi hj hij);have:=(getElem?_inj hj hnd (j:=i)).1 (by rw[py hj,py hi,e]);omega
 ·rw[hp.mem_iff,Ut,HU]
def vD(c:Nat):Bool:=decide (c=95\/(65<=c/\c<=90)\/(97<=c/\c<=122))
def Fx(c:Nat):Bool:=decide (vD c=true\/(48<=c/\c<=57)\/c=45)
def Pj{c:Nat}(h:vD c=true):Fx c=true:=Rr (.inl h)
def nY(s:List UInt8):Bool:=match s with
 |[]=>false
 |c::r=>vD c.toNat&&r.all λ c=>Fx c.toNat
def bF(s:ByteArray):Bool:=decide (s.size<=32)&&nY s.data.toList
def sK{s:ByteArray}(h:32<s.size):bF s=false:=by
 unfold bF;rw[AT (by omega)];rfl
def vE{s:ByteArray}(h:s.size<1):bF s=false:=by
 have h0:s.data.toList=[]:=RM (by show s.data.toList.length=0;have:s.data.toList.length=s.size:=rfl;omega);unfold bF;rw[h0];simp[nY]
def qh{s:List UInt8}{c:UInt8}(h:s[0]? =some c)(hn:vD c.toNat=false):nY s=false:=by
 cases s with
 |nil=>rfl
 |cons d r=>simp at h;subst h;simp[nY,hn]
def vF{s:List UInt8}{i:Nat}{c:UInt8}(h:s[i]? =some c)(hn:Fx c.toNat=false):nY s=false:=by
 cases s with
 |nil=>rfl
 |cons d r=>
  cases i with
  |zero=>
   simp at h;subst h;have:vD d.toNat=false:=UO.2 λ h9=>by rw[Pj h9]at hn;cases hn
   simp[nY,this]
  |succ i=>
   simp at h;have hm:=Rv h;have:(r.all λ c=>Fx c.toNat)=false:=UO.2 λ h9=>by rw[Sy.1 h9 c hm]at hn;cases hn
   simp[nY,this]
def sL{s:List UInt8}{c:UInt8}(h:s[0]? =some c)(hf:vD c.toNat=true)(hall:∀ i,∀ d,s[i]? =some d->0<i->Fx d.toNat=true):nY s=true:=by
 cases s with
 |nil=>cases h
 |cons d r=>
  simp at h;subst h;have:(r.all λ c=>Fx c.toNat)=true:=Sy.2 λ x hx=>by
   obtain⟨i,hi⟩:=Sd hx;exact hall (i+1) x (by simpa using hi) (by omega)
  simp[nY,hf,this]
def cP:Enc (ByteArray×Bool):=⟨2,λ x=>[.string x.1,.bool x.2],λ _=>Y,λ x u h=>by simp at h;rcases h with rfl|rfl<;>rfl⟩
structure Pc where
 f:Int
 sv:SV
 ns:List ByteArray
def NJ(l:List (ByteArray×Bool))(i:Nat):Prop:=∀ x,l[i]? =some x->bF x.1=true/\((l.take i).any λ y=>decide (y.1=x.1))=false
def atsOk(l:List (ByteArray×Bool)):Prop:=(∀ i,NJ l i)/\1<=l.length/\l.length<=8
