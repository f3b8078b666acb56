/-
 M13:plain facts on ascending lists of different strings (layer 13). No program in sight.
-/
import Derived.Test.YtcmldpiicnobnaaGreatDoorKp
import Derived.MapKept
import Derived.Maps.RangeRun
import Derived.RangeFuncLeaves
import Derived.RangeFuncCalls
import Derived.RangeFuncSeq
set_option linter.all false
open Go.Proofs.YtcmldpiicnobnaaGreatDoor
open List
namespace Go.Kw
section
variable {α:Type} {R:α->α->Prop} [DecidableRel R]
def uh(R:α->α->Prop)[DecidableRel R](l:List α)(x:α):Nat:=(l.takeWhile λ y=>decide (R y x)).length
def iZ(R:α->α->Prop)[DecidableRel R](l:List α)(x:α):List α:=l.take (uh R l x)++x::l.drop (uh R l x)
def E9(l:List α)(x:α):uh R l x<=l.length:=(takeWhile_sublist _).length_le
def fR{y x:α}{r:List α}(h:R y x):uh R (y::r) x=uh R r x+1:=by simp[uh,h]
def fS{y x:α}{r:List α}(h:¬ R y x):uh R (y::r) x=0:=by simp[uh,h]
def Ea{x:α}:∀ {l:List α} {k:Nat} {y:α},k<uh R l x->l[k]? =some y->R y x
 |[],k,y,h,hy=>by simp at hy
 |z::r,k,y,h,hy=>by
  by_cases hz:R z x
  ·rw[fR hz]at h;cases k with
   |zero=>simp at hy;subst hy;exact hz
   |succ k=>exact Ea (l:=r) (k:=k) (by omega) (by simpa using hy)
  ·rw[fS hz]at h;omega
def Eb{x:α}:∀ {l:List α} {y:α},l[uh R l x]? =some y->¬ R y x
 |[],y,hy=>by simp at hy
 |z::r,y,hy=>by
  by_cases hz:R z x
  ·rw[fR hz]at hy;exact Eb (l:=r) (by simpa using hy)
  ·rw[fS hz]at hy;simp at hy;subst hy;exact hz
def y1{l:List α}{x:α}{k:Nat}(hk:k<=l.length)(h1:∀ j y,j<k->l[j]? =some y->R y x)(h2:∀ y,l[k]? =some y->¬ R y x):uh R l x=k:=by
 rcases Qr (uh R l x) k with h|h|h
 ·have hlt:uh R l x<l.length:=by omega
  exact absurd (h1 _ _ h (py hlt)) (Eb (py hlt))
 ·exact h
 ·have hlt:k<l.length:=by have:=E9 (R:=R) l x;omega
  exact absurd (Ea h (py hlt)) (h2 _ (py hlt))
def vM{l:List α}{x y:α}:y∈iZ R l x↔y=x\/y∈l:=by
 unfold iZ;rw[OM,LD];constructor
 ·rintro(h|h|h)
  ·exact .inr (OS h)
  ·exact .inl h
  ·exact .inr (P1 h)
 ·rintro(h|h)
  ·exact .inr (.inl h)
  ·rw[<-P0 (uh R l x) l,OM]at h;rcases h with h|h
   ·exact .inl h
   ·exact .inr (.inr h)
def BC(l:List α)(x:α):(iZ R l x).Perm (x::l):=by
 unfold iZ;have h:=Sv (a:=x) (l₁:=l.take (uh R l x)) (l₂:=l.drop (uh R l x));rwa[P0]at h
def vN(l:List α)(x:α):(iZ R l x).length=l.length+1:=by simpa using(BC (R:=R) l x).length_eq
def ri{y x:α}{r:List α}(h:R y x):iZ R (y::r) x=y::iZ R r x:=by simp[iZ,fR h]
def rj{y x:α}{r:List α}(h:¬ R y x):iZ R (y::r) x=x::y::r:=by simp[iZ,fS h]
def vO(tr:∀ {a b c},R a b->R b c->R a c){x:α}:∀ {l:List α},l.Pairwise R->(∀ y∈l,¬ R y x->R x y)->(iZ R l x).Pairwise R
 |[],_,_=>by simp[iZ]
 |y::r,hl,hx=>by
  obtain⟨h1,h2⟩:=P2.1 hl;by_cases h:R y x
  ·rw[ri h,P2];refine⟨λ z hz=>?_,vO tr h2 λ z hz=>hx z (Pe _ hz)⟩;rcases vM.1 hz with rfl|hz
   ·exact h
   ·exact h1 z hz
  ·have hxy:=hx y (Pu ..) h;rw[rj h,P2];refine⟨λ z hz=>?_,hl⟩;rcases LD.1 hz with rfl|hz
   ·exact hxy
   ·exact tr hxy (h1 z hz)
def zj(irr:∀ a,¬ R a a)(asy:∀ {a b},R a b->¬ R b a){x:α}:∀ {l:List α},l.Pairwise R->x∈l->l[uh R l x]? =some x
 |[],_,h=>by cases h
 |y::r,hl,h=>by
  obtain⟨h1,h2⟩:=P2.1 hl;rcases LD.1 h with rfl|h
  ·rw[fS (irr _)];rfl
  ·rw[fR (h1 x h)];simpa using zj irr asy h2 h
end
def SLt(a b:ByteArray):Prop:=a.data.toList<b.data.toList
instance:DecidableRel SLt:=λ a b=>inferInstanceAs (Decidable (a.data.toList<b.data.toList))
def nE{a b:ByteArray}(h:a.data.toList=b.data.toList):a=b:=by
 obtain⟨⟨x⟩⟩:=a;obtain⟨⟨y⟩⟩:=b;simp at h;rw[h]
def SLt.C3(a:ByteArray):¬ SLt a a:=List.lt_irrefl _
def SLt.tr{a b c:ByteArray}(h:SLt a b)(k:SLt b c):SLt a c:=List.lt_trans h k
def SLt.Ln{a b:ByteArray}(h:SLt a b):¬ SLt b a:=λ k=>SLt.C3 a (h.tr k)
def SLt.MX{a b:ByteArray}(h:¬ SLt a b)(k:a≠b):SLt b a:=by
 rcases Rm (SLt b a)with h'|h'
 ·exact h'
 ·exact absurd (nE (List.le_antisymm (List.not_lt.1 h') (List.not_lt.1 h))) k
abbrev Asc(l:List ByteArray):Prop:=l.Pairwise SLt
abbrev ei(l:List ByteArray)(w:ByteArray):Nat:=uh SLt l w
theorem Asc.get{l:List ByteArray}(h:Asc l){w:ByteArray}(hw:w∈l):l[ei l w]? =some w:=zj SLt.C3 SLt.Ln h hw
theorem Asc.ins{l:List ByteArray}(h:Asc l){w:ByteArray}(hw:w∉l):Asc (iZ SLt l w):=vO (R:=SLt) (λ h k=>SLt.tr h k) h λ y hy hn=>SLt.MX hn λ(e:y=w)=>hw (e▸hy)
theorem Asc.lt{l:List ByteArray}(h:Asc l){i j:Nat}{x y:ByteArray}(hx:l[i]? =some x)(hy:l[j]? =some y)(hij:i<j):SLt x y:=by
 obtain⟨h1,rfl⟩:=sp.1 hx;obtain⟨h2,rfl⟩:=sp.1 hy;exact PU.1 h i j h1 h2 hij
theorem Asc.inj{l:List ByteArray}(h:Asc l){i j:Nat}{x:ByteArray}(hx:l[i]? =some x)(hy:l[j]? =some x):i=j:=by
 rcases Qr i j with e|e|e
 ·exact absurd (h.lt hx hy e) (SLt.C3 x)
 ·exact e
 ·exact absurd (h.lt hy hx e) (SLt.C3 x)
def vP{α:Type}{M:List α->Prop}(h0:M [])(h1:∀ l x,M l->M (l++[x]))(l:List α):M l:=by
 have:∀ r:List α,M r.reverse:=λ r=>by
  induction r with
  |nil=>exact h0
  |cons x r ih=>rw[reverse_cons];exact h1 _ _ ih
 simpa using this l.reverse
def lh(vs:List ByteArray)(w:ByteArray):Nat:=vs.countP λ x=>decide (x=w)
def mC(vs:List ByteArray)(v w:ByteArray):lh (vs++[v]) w=lh vs w+(if v=w then 1 else 0):=by
 simp only[lh,countP_append,countP_cons,countP_nil,PI];omega
def Ec{vs:List ByteArray}{w:ByteArray}(h:w∉vs):lh vs w=0:=Rh.2 λ x hx=>by simp;exact λ e=>h (e▸hx)
def H8{vs:List ByteArray}{w:ByteArray}(h:w∈vs):1<=lh vs w:=countP_pos_iff.2 ⟨w,h,by simp⟩
def Ka(vs:List ByteArray)(w:ByteArray):lh vs w<=vs.length:=countP_le_length
def addW(W:List ByteArray)(v:ByteArray):List ByteArray:=if W[ei W v]? =some v then W else iZ SLt W v
def ab(vs:List ByteArray):List ByteArray:=vs.foldl addW []
def aM(vs:List ByteArray):List Nat:=(ab vs).map (lh vs)
def da(vs:List ByteArray)(v:ByteArray):ab (vs++[v])=addW (ab vs) v:=by simp[ab]
def BD{W:List ByteArray}(h:Asc W)(v:ByteArray):Asc (addW W v)/\∀ x,x∈addW W v↔x=v\/x∈W:=by
 unfold addW;split
 ·rename_i hk
  have hm:=OD hk;exact⟨h,λ x=>⟨.inr,λ hx=>hx.elim (λ e=>e▸hm) id⟩⟩
 ·rename_i hk
  have hn:v∉W:=λ hm=>hk (h.get hm);exact⟨h.ins hn,λ x=>vM⟩
def oo(vs:List ByteArray):Asc (ab vs)/\∀ x,x∈ab vs↔x∈vs:=by
 induction vs using vP with
 |h0=>exact⟨List.Pairwise.nil,λ x=>Iff.rfl⟩
 |h1 vs v ih=>
  rw[da];obtain⟨h1,h2⟩:=BD ih.1 v;refine⟨h1,λ x=>?_⟩;rw[h2,ih.2,OM,OF];exact Or.comm
def eW(vs:List ByteArray):Asc (ab vs):=(oo vs).1
def dX{vs:List ByteArray}{x:ByteArray}:x∈ab vs↔x∈vs:=(oo vs).2 x
def lj{vs:List ByteArray}{v:ByteArray}(h:v∈vs):(ab vs)[ei (ab vs) v]? =some v:=(eW vs).get (dX.2 h)
def vQ(W:List ByteArray)(v:ByteArray):W.length<=(addW W v).length/\(addW W v).length<=W.length+1:=by
 unfold addW;split
 ·omega
 ·rw[vN];omega
def bW(vs:List ByteArray):(ab vs).length<=vs.length:=by
 induction vs using vP with
 |h0=>simp[ab]
 |h1 vs v ih=>
  rw[da,AT];have:=(vQ (ab vs) v).2;simp;omega
def gv(vs:List ByteArray):(aM vs).length=(ab vs).length:=by simp[aM]
def tG{vs:List ByteArray}{v:ByteArray}(h:(ab vs)[ei (ab vs) v]? =some v):
  ∃ c,(aM vs)[ei (ab vs) v]? =some c/\aM (vs++[v])=(aM vs).set (ei (ab vs) v) (c+1):=by
 refine⟨lh vs v,by simp[aM,h],?_⟩;have e:ab (vs++[v])=ab vs:=by rw[da,addW,Ow h]
 unfold aM;rw[e];have hlt:=(sp.1 h).1;apply QN;intro j;rw[Q1];by_cases hj:ei (ab vs) v=j
 ·subst hj;rw[Ow J,OT,h,Ow (by simpa using hlt)];simp[mC]
 ·rw[OB hj,OT,OT];cases hx:(ab vs)[j]? with
  |none=>rfl
  |some x=>
   have:v≠x:=λ e=>hj ((eW vs).inj h (e▸hx));simp[mC,this]
def y3{vs:List ByteArray}{v:ByteArray}(h:¬ (ab vs)[ei (ab vs) v]? =some v):
  aM (vs++[v])=(aM vs).take (ei (ab vs) v)++1::(aM vs).drop (ei (ab vs) v):=by
 have hn:v∉vs:=λ hm=>h (lj hm);have e:ab (vs++[v])=iZ SLt (ab vs) v:=by rw[da,addW,OB h]
 unfold aM;rw[e,iZ,Pw,P5,<-Qt,<-map_drop];have e1:∀ l:List ByteArray,(∀ x∈l,x∈ab vs)->l.map (lh (vs++[v]))=l.map (lh vs):=λ l hl=>Qq λ x hx=>by
  have:v≠x:=λ e=>hn (e▸dX.1 (hl x hx));simp[mC,this]
 rw[e1 _ λ x hx=>OS hx,e1 _ λ x hx=>P1 hx,mC,Ow J,Ec hn]
def Oe(W:List ByteArray)(i:Nat):ByteArray:=Nk (W.getD i ByteArray.empty)
def On(W:List ByteArray)(i j:Nat):Prop:=SLt (Oe W i) (Oe W j)
instance(W:List ByteArray):DecidableRel (On W):=λ i j=>inferInstanceAs (Decidable (SLt _ _))
end Go.Kw
namespace Go.Kw
open Go.RowKit Go.MapKept
abbrev M7:=List (ByteArray×Nat)
def Ed(r:Nat)(s:ByteArray)(i:Nat):Chunk where
 foot:=[r]
 holds w:=w.heap[r]? =some (.stringIter s i)
 stable w w' h hc:=by rw[h r (by simp)];exact hc
def ID(m:M7):List ByteArray:=m.map (·.1)
instance(s:ByteArray)(m:M7):Decidable (s∈ID m):=decidable_of_iff (∃ p∈m,p.1=s) (by simp[ID])
section
variable {P:Program} {n:Nat} {L:aA} {w w0:World} {cs:List Chunk} {K:Value->World->Prop} {d:Option Nat} {ty:TypeId} {pos:String} {af:Array Edge} {g:Option (Nat×Bool)}
def tH{b:Nat}{o:Obj}(o':Obj)(hb:w.heap[b]? =some o):Chg [b] w {w with heap:=w.heap.setIfInBounds b o'}:=
 ⟨J,J,J,by simp,λ k _ hn=>(RA hb).2 k (by simpa using hn)⟩
def OpE.FD{x:Operand}{t:TypeId}{s:ByteArray}(hu:P.underlying t=some .string)(hs:Sat w0 cs w)(hx:aH L x=some (.string s))
  (hk:∀ r w',Sat w0 (cs++[Ed r s 0]) w'->K (.pointer (some ⟨r,0,none⟩)) w'):OpE P n L w ⟨d,.range t x,ty,pos,af,g⟩ K:=by
 refine .val (v:=.pointer (some ⟨w.heap.size,0,none⟩)) (w':=w.alloc (.stringIter s 0)) (λ ρ hρ=>?_) (hk _ _ (hs.add (.alloc _ _) (QY w _) (by simp[Ed])));simp[execOp,hρ hx,Instr.range,OH hu,go_sem]
def OpE.Ie{x:Operand}{i r j:Nat}{s:ByteArray}(hs:Sat w0 cs w)(hi:cs[i]? =some (Ed r s j))(hx:aH L x=some (.pointer (some ⟨r,0,none⟩)))
  (hd:s.size<=j->K (.tuple #[.bool false]) w)
  (hm:∀ w',j<s.size->Sat w0 (cs.set i (Ed r s (j+(dec (s.data.toList.drop j)).2))) w'->K (.tuple #[.bool true,.int .i64 ((j:Nat):Int),.int .i32 (((dec (s.data.toList.drop j)).1:Nat):Int)]) w'):OpE P n L w ⟨d,.next x true,ty,pos,af,g⟩ K:=by
 have hr:w.heap[r]? =some (.stringIter s j):=hs.get hi;have hg:(getObj r).run P w= .ok (.stringIter s j) w:=by simp[getObj,Sem.run,hr]
 by_cases hj:j<s.size
 ·have Ml:=xJ s j;refine .val (v:=.tuple #[.bool true,.int .i64 ((j:Nat):Int),.int .i32 (((dec (s.data.toList.drop j)).1:Nat):Int)]) (w':={w with heap:=w.heap.setIfInBounds r (.stringIter s (j+(dec (s.data.toList.drop j)).2))}) (λ ρ hρ=>?_)
   (hm _ hj (hs.set i hi (tH _ hr) (RA hr).1 (λ _ h=>.inl h)))
  have hset:(setObj r (.stringIter s (j+(dec (s.data.toList.drop j)).2))).run P w= .ok () {w with heap:=w.heap.setIfInBounds r (.stringIter s (j+(dec (s.data.toList.drop j)).2))}:=by simp[setObj,Sem.run,hr]
  simp[execOp,hρ hx,Instr.next,hg,hj,Ml,hset,Result.andThen,goInt]
 ·refine .val (v:=.tuple #[.bool false]) (w':=w) (λ ρ hρ=>?_) (hd (by omega));simp[execOp,hρ hx,Instr.next,hg,hj,Result.andThen]
def kx:∀ (x y:List UInt8),Op.bytesLess x y=decide (x<y)
 |[],[]=>by simp[Op.bytesLess]
 |_::_,[]=>by simp[Op.bytesLess]
 |[],_::_=>by simp[Op.bytesLess]
 |a::x,b::y=>by
  have e:(a==b)=decide (a=b):=by by_cases h:a=b<;>simp[h]
  rw[Op.bytesLess,kx x y,e];simp[cons_lt_cons_iff]
def mD(a b:ByteArray):Op.bytesLess a.toList b.toList=decide (SLt a b):=by
 rw[kx,Qv,Qv];rfl
def Ev.qK{x y:Operand}{t T:TypeId}{a b:ByteArray}(hx:aH L x=some (.string a))(hy:aH L y=some (.string b)):Ev P n L w ⟨d,.binOp .lss t x y T,ty,pos,af,g⟩ (.bool (decide (SLt a b))):=
 .bin hx hy (by rfl) λ w=>by rw[binOp_string_lss,mD];rfl
def Ev.qN{x y:Operand}{t T:TypeId}{a b:ByteArray}(hx:aH L x=some (.string a))(hy:aH L y=some (.string b)):Ev P n L w ⟨d,.binOp .geq t x y T,ty,pos,af,g⟩ (.bool (decide (¬ SLt a b))):=
 .bin hx hy (by rfl) λ w=>by rw[show binOp .geq t (.string a) (.string b)=pure (.bool !(Op.bytesLess a.toList b.toList)) by simp[binOp,Op.stringOp],mD];simp
def Ev.NQ{x y:Operand}{t T:TypeId}{a b:ByteArray}(hx:aH L x=some (.string a))(hy:aH L y=some (.string b)):Ev P n L w ⟨d,.binOp .leq t x y T,ty,pos,af,g⟩ (.bool (decide (¬ SLt b a))):=
 .bin hx hy (by rfl) λ w=>by
  rw[show binOp .leq t (.string a) (.string b)=pure (.bool (Op.bytesLess a.toList b.toList||a.toList==b.toList)) by simp[binOp,Op.stringOp],mD,tf];have:(decide (SLt a b)||decide (a=b))=decide (¬ SLt b a):=by
   by_cases h:SLt a b
   ·simp[h,h.Ln]
   ·by_cases e:a=b
    ·subst e;simp[SLt.C3]
    ·simp[h,e,SLt.MX h e]
  rw[this];rfl
def Ev.Lh{x y:Operand}{t T:TypeId}{a b:ByteArray}(hx:aH L x=some (.string a))(hy:aH L y=some (.string b)):Ev P n L w ⟨d,.binOp .gtr t x y T,ty,pos,af,g⟩ (.bool (decide (SLt b a))):=
 .bin hx hy (by rfl) λ w=>by
  rw[show binOp .gtr t (.string a) (.string b)=pure (.bool !(Op.bytesLess a.toList b.toList||a.toList==b.toList)) by simp[binOp,Op.stringOp],mD,tf];have:(!(decide (SLt a b)||decide (a=b)))=decide (SLt b a):=by
   by_cases h:SLt a b
   ·simp[h,h.Ln]
   ·by_cases e:a=b
    ·subst e;simp[SLt.C3]
    ·simp[h,e,SLt.MX h e]
  rw[this];rfl
end
end Go.Kw
namespace Go.Kw
open Go.RowKit
section
variable {P:Program} {n:Nat} {L:aA} {w:World} {K:aA->World->Prop} {ops:List Oper} {D:List Deferred}
end
section
variable {lp:Nat} {P:Program} {n:Nat} {N R:aA->World->Prop} {X G:List (Nat×(aA->World->Prop))} {L:aA} {w:World}
end
section
variable {P:Program} {n:Nat} {Q:Qs} {L:aA} {w:World} {K:aA->World->Prop} {ops:List Oper}
end
section
variable {P:Program} {n:Nat} {L:aA} {w:World} {d:Option Nat} {ty:TypeId} {pos:String} {af:Array Edge} {g:Option (Nat×Bool)}
end
def zl(s:ByteArray):s.data.toList.length=s.size:=Qg
def vR{s:ByteArray}{i:Nat}(h:i<s.size):dr s.data.toList i=⟨(dec (s.data.toList.drop i)).1,i,i+(dec (s.data.toList.drop i)).2-i⟩::dr s.data.toList (i+(dec (s.data.toList.drop i)).2):=by
 rw[iA (by rw[zl];exact h),PH]
def jX{s:ByteArray}{i:Nat}(h:i<s.size):i+(dec (s.data.toList.drop i)).2<=s.size:=by
 have:=Dd (s:=s.data.toList) (i:=i) (by rw[zl];exact h);rwa[zl]at this
def zm{s:ByteArray}{i:Nat}(h:s.size<=i):dr s.data.toList i=[]:=gi (by rw[zl];exact h)
section
variable {P:Program} {n:Nat} {L:aA} {w:World} {d:Option Nat} {x y:Operand} {xt yt ty:TypeId} {g:Option (Nat×Bool)} {k:IntKind}
def Ev.MK{pos:String}{af:Array Edge}{a b:Nat}(hx:aH L x=some (.int k (a:Int)))(hy:aH L y=some (.int k (b:Int)))(hk:k.signed=false)(hb:0<b)(h:a<2^k.bits):Ev P n L w ⟨d,.binOp .quo xt x y yt,ty,pos,af,g⟩ (.int k ((a/b:Nat):Int)):=
 .bin hx hy (Pf ..) λ w=>by
  have h0:(b:Int)≠0:=by omega
  have h1:((a:Int).tdiv (b:Int))=((a/b:Nat):Int):=by rw[Int.tdiv_eq_ediv_of_nonneg (by omega)];simp
  have h2:k.wrap ((a/b:Nat):Int)=((a/b:Nat):Int):=pI hk (RX (QD a b) h);simp only[binOp,Op.intDiv,h0,Py,h1,h2,go_sem];simp[go_sem]
def Ev.ch{w0:World}{cs:List Chunk}{pos:String}{af:Array Edge}{T i b:Nat}{U:TypeId}{cells:List Value}{m:Nat}(hT:db P T m=true)(hx:aH L x=some (.pointer (some ⟨b,0,none⟩)))(hs:Sat w0 cs w)(hi:cs[i]? =some (aw b U cells))(hm:cells.length=m):
  Ev P n L w ⟨d,.load T x,ty,pos,af,g⟩ (.agg cells.toArray):=.of λ ρ hρ=>by
 subst hm;have hl:=Qn (P:=P) w ⟨b,0,none⟩ cells (λ q u hu=>by rw[Ph,Pa];exact hs.cell hi hu);have hag:(isAgg T).run P w= .ok true w:=by
  unfold db at hT;cases hun:P.underlying T with
  |none=>simp[hun]at hT
  |some D=>cases D<;>simp[hun]at hT<;>simp[isAgg,OH hun,go_sem]
 have hsz:(sizeOf T).run P w= .ok cells.length w:=by
  unfold db at hT;cases hin:P.info? T with
  |none=>simp[hin]at hT
  |some inf=>simp[hin]at hT;simp[sizeOf,typeInfo,hin,hT.2,go_sem]
 have hld:(Instr.loadAt T (ρ x)).run P w= .ok (.agg cells.toArray) w:=by
  simp only[Instr.loadAt,loadVar,hρ hx,Instr.sureAddr,ON,OR,Ox,hag,hsz,hl,Qa]
 simp only[execOp,ON,hld,Ox,OR]
end
