/-
 M01:plain facts on strings as units (layer 1):what 'range' over a string meets,valid strings,strings in reverse. No program in sight.
-/
import Derived.Test.YtcgidfgdbhihbaaGreatDoorAl
import Derived.WalkKit
import Derived.Lib.DecodeN
open List renaming length→I,take→J,drop→ww
open ByteArray renaming empty→wt
set_option linter.all false
open Go.Proofs.YtcgidfgdbhihbaaGreatDoor
open List
namespace Go.Kw
open Go.Lib
def gb(l:List UInt8)(k:Nat):Nat:=(l.getD k 0).toNat
def dec(l:List UInt8):Nat×Nat:=decodeN (I l) (gb l 0) (gb l 1) (gb l 2) (gb l 3)
def pD(s:ByteArray)(i:Nat):(s.get! i).toNat=gb s.data.toList i:=by
 unfold gb;show(s.data[i]!).toNat=_;rw[KV,ZS];by_cases h:i<s.data.size
 ·rw[getElem!_pos s.data i h,Array.getElem?_eq_getElem h];rfl
 ·rw[getElem!_neg s.data i h,a1m O];rfl
def pE(l:List UInt8)(i k:Nat):gb (ww i l) k=gb l (i+k):=by
 unfold gb;simp[KV]
def D7(s:ByteArray)(i:Nat):Utf8.decode s i=dec (ww i s.data.toList):=by
 rw[decode_at];unfold dec;rw[pE,pE,pE,pE,pD,pD,pD,pD];have:s.size-i=I (ww i s.data.toList):=by rw[XD,YL];rfl
 rw[this];rfl
def AG(n b0 b1 b2 b3:Nat):1<=(decodeN n b0 b1 b2 b3).2/\(decodeN n b0 b1 b2 b3).2<=4:=by
 unfold decodeN
 repeat' split
 all_goals exact⟨bw,bw⟩
def D8(n b0 b1 b2 b3:Nat)(H:1<=n):(decodeN n b0 b1 b2 b3).2<=n:=by
 unfold decodeN
 repeat' split
 all_goals simp only[]at*
 all_goals omega
def Hf(n b0 b1 b2 b3:Nat):(decodeN n b0 b1 b2 b3).1<2097152:=by
 unfold decodeN
 repeat' split
 all_goals simp only[]
 all_goals omega
def rJ{n m b0 b1 b2 b3 i j k:Nat}{p:Nat×Nat}(H:decodeN n b0 b1 b2 b3=p)(g:p.1≠65533\/p.2=3)(d:p.2<=m)(E:1<p.2->i=b1)(l:2<p.2->j=b2)(o:3<p.2->k=b3):
  decodeN m b0 i j k=p:=by
 unfold decodeN at H;split at H
 ·subst H;unfold decodeN;rename_i h;rw[Xp h]
 rename_i h0
 split at H
 ·rename_i h1
  split at H
  ·rename_i h2
   subst H;have:=E bw;subst this;unfold decodeN;rw[Xn h0,Xp ⟨h1.1,a1Q,h1.2.2⟩,Xp h2]
  ·subst H;simp at g
 rename_i h1
 split at H
 ·rename_i h2
  split at H
  ·rename_i h3
   subst H;have:=E bw;subst this;have:=l bw;subst this;unfold decodeN;rw[Xn h0,Xn (λ h=>by omega),Xp ⟨h2.1,⟨a1Q,h2.2.1.2⟩,⟨a1Q,h2.2.2.2⟩⟩,Xp h3]
  ·subst H;simp at g
 rename_i h2
 split at H
 ·rename_i h3
  split at H
  ·rename_i h4
   subst H;have:=E bw;subst this;have:=l bw;subst this;have:=o bw;subst this;unfold decodeN;rw[Xn h0,Xn (λ h=>by omega),Xn (λ h=>by omega),Xp ⟨h3.1,⟨a1Q,h3.2.1.2⟩,⟨a1Q,h3.2.2.1.2⟩,⟨a1Q,h3.2.2.2.2⟩⟩,Xp h4]
  ·subst H;simp at g
 ·subst H;simp at g
def cH(l:List UInt8):1<=(dec l).2:=(AG ..).1
def D9{l:List UInt8}(h:l≠[]):(dec l).2<=I l:=D8 _ _ _ _ _ (a1g.2 h)
def UL(l:List UInt8):(dec l).1<2097152:=Hf ..
def mU{u t:List UInt8}{k:Nat}(h:k<I u):gb (u++t) k=gb u k:=by
 unfold gb;simp[KV,a13,h]
def sD{l:List UInt8}{w k:Nat}(h:k<w):gb (J w l) k=gb l k:=by
 unfold gb;simp[KV,Yu,h]
def UM(p:Nat×Nat):Prop:=p.1≠65533\/p.2=3
def Da{u t:List UInt8}(h:UM (dec u))(l:(dec u).2=I u):dec (u++t)=dec u:=by
 have g:=cH u;have d:(decodeN (I u) (gb u 0) (gb u 1) (gb u 2) (gb u 3)).2=I u:=l;unfold dec;rw[mU (k:=0) O];exact rJ (n:=I u) (b1:=gb u 1) (b2:=gb u 2) (b3:=gb u 3) Y h (by show(dec u).2<=_;rw[l];simp) (λ H=>mU a3R) (λ H=>mU a3R) (λ H=>mU a3R)
def JO{l:List UInt8}(d:l≠[])(h:UM (dec l)):dec (l.take (dec l).2)=dec l:=by
 have g:=cH l;have i:=D9 d;have E:gb (l.take (dec l).2) 0=gb l 0:=sD O;have H:I (l.take (dec l).2)=(dec l).2:=by rw[Xo];omega
 show decodeN _ _ _ _ _=_;rw[E,H];exact rJ (n:=I l) (b1:=gb l 1) (b2:=gb l 2) (b3:=gb l 3) Y h (KM _) (λ k=>sD k) (λ k=>sD k) (λ k=>sD k)
def nz(l:List UInt8):List (Nat×List UInt8):=
 if h:l=[]then[]else((dec l).1,l.take (dec l).2)::nz (l.drop (dec l).2)
 termination_by (I l)
 decreasing_by
 have:=cH l;have:=a1g.2 h;simp only[XD];omega
def pF:nz []=[]:=by rw[nz];simp
def mV{l:List UInt8}(h:l≠[]):nz l=((dec l).1,l.take (dec l).2)::nz (l.drop (dec l).2):=by rw[nz,dif_neg h]
def AH{M:List UInt8->Prop}(h0:M [])(h1:∀ l,l≠[]->M (l.drop (dec l).2)->M l):∀ l,M l:=λ l=>by
 generalize H:I l=n;induction n using Nat.strongRecOn generalizing l with
 |_ n i=>
  by_cases h:l=[]
  ·rw[h];exact h0
  ·have:=cH l;have:=a1g.2 h;exact h1 l h (i _ (by simp only[XD];omega) _ Y)
def rK(l:List UInt8):(nz l).flatMap (·.2)=l:=by
 induction l using AH with
 |h0=>rw[pF];rfl
 |h1 l h i=>rw[mV h,Zs,i];exact XV ..
def X1(p:Nat×List UInt8):Prop:=dec p.2=(p.1,I p.2)/\UM (p.1,I p.2)/\p.2≠[]
def okB(p:Nat×List UInt8):Prop:=p.1≠65533\/I p.2=3
def Of(l:List UInt8)(h:∀ p∈nz l,okB p):∀ p∈nz l,X1 p:=by
 induction l using AH with
 |h0=>rw[pF];simp
 |h1 l d o=>
  rw[mV d]at h⊢;have r:=D9 d;have h1:=cH l;have H:I (l.take (dec l).2)=(dec l).2:=by rw[Xo];omega
  intro p j;rcases Xr.1 j with rfl|j
  ·have g:=h _ (Yp ..);have i:UM (dec l):=by
    rcases g with g|g
    ·exact .inl g
    ·exact .inr (by rw[H]at g;exact g)
   refine⟨?_,?_,?_⟩
   ·show dec (l.take (dec l).2)=((dec l).1,I (l.take (dec l).2));rw[JO d i,H]
   ·show UM ((dec l).1,I (l.take (dec l).2));rw[H];exact i
   ·intro he;have:=If List.length he;simp only[Xv]at this;have t:I (l.take (dec l).2)=0:=this;omega
  ·exact o (λ q k=>h q (Ya _ k)) p j
def tY:∀ (ps:List (Nat×List UInt8)),(∀ p∈ps,X1 p)->nz (ps.flatMap (·.2))=ps
 |[],_=>pF
 |p::r,h=>by
  obtain⟨H,d,g⟩:=h p (Yp ..);have j:=tY r (λ q i=>h q (Ya _ i));have hd:dec (p.2++r.flatMap (·.2))=(p.1,I p.2):=by rw[Da (by rw[H];exact d) a3Q,H]
  rw[Zs,mV a0G,hd];simp only[take_left',drop_left'];rw[j]
def AI(l:List UInt8):List UInt8:=(nz l).reverse.flatMap (·.2)
def We(l:List UInt8):Prop:=∀ p∈nz l,okB p
def AJ{l:List UInt8}(h:We l):nz (AI l)=(nz l).reverse:=tY _ λ p H=>Of l h p (mem_reverse.1 H)
def JP{l m:List UInt8}(d:We l)(g:We m)(h:AI l=AI m):l=m:=by
 have H:=AJ d;rw[h,AJ g]at H;rw[<-rK l,<-rK m,reverse_inj.1 H]
structure Un where
 r:Nat
 at_:Nat
 size:Nat
def cv(s:List UInt8)(i:Nat):List Un:=
 if h:i<I s then⟨(dec (ww i s)).1,i,(dec (ww i s)).2⟩::cv s (i+(dec (ww i s)).2)else[]
 termination_by (I s)-i
 decreasing_by have:=cH (ww i s);omega
def dh(s:List UInt8):List Un:=cv s 0
def gn{s:List UInt8}{i:Nat}(h:i<I s):cv s i=⟨(dec (ww i s)).1,i,(dec (ww i s)).2⟩::cv s (i+(dec (ww i s)).2):=by rw[cv,dif_pos h]
def eB{s:List UInt8}{i:Nat}(h:I s<=i):cv s i=[]:=by rw[cv,dif_neg O]
def AK{s:List UInt8}{i:Nat}(h:i<I s):i+(dec (ww i s)).2<=I s:=by
 have:=D9 (l:=ww i s) (λ he=>by have:=If List.length he;simp at this;omega);rw[XD]at this;omega
def pG(s:List UInt8):∀ (k i:Nat),I s-i<=k->(cv s i).map (λ u=>(u.r,J u.size (ww u.at_ s)))=nz (ww i s)
 |k,i,hk=>by
  by_cases h:i<I s
  ·have H:ww i s≠[]:=λ he=>by have:=If List.length he;simp at this;omega
   have:=cH (ww i s);cases k with
   |zero=>omega
   |succ k=>
    rw[gn h,mV H,XZ,pG s k _ O,a2v]
  ·rw[eB O,a2p O,pF];rfl
def AL(s:List UInt8):(dh s).map (λ u=>(u.r,J u.size (ww u.at_ s)))=nz s:=by
 have:=pG s (I s) 0 O;rwa[YR]at this
def pH(s:List UInt8):∀ (k i:Nat),I s-i<=k->∀ u∈cv s i,u.at_+u.size<=I s/\1<=u.size/\u.r<2097152
 |k,i,hk,u,hu=>by
  by_cases h:i<I s
  ·have:=cH (ww i s);cases k with
   |zero=>omega
   |succ k=>
    rw[gn h]at hu;rcases Xr.1 hu with rfl|hu
    ·exact⟨AK h,cH _,UL _⟩
    ·exact pH s k _ O u hu
  ·rw[eB O]at hu;cases hu
def AM(s:List UInt8):∀ u∈dh s,u.at_+u.size<=I s/\1<=u.size/\u.r<2097152:=pH s (I s) 0 O
def lY(s:List UInt8):∀ (k i:Nat),I s-i<=k->I (cv s i)<=I s-i
 |k,i,hk=>by
  by_cases h:i<I s
  ·have:=cH (ww i s);cases k with
   |zero=>omega
   |succ k=>
    rw[gn h,No];have:=lY s k (i+(dec (ww i s)).2) O;omega
  ·rw[eB O];simp
def gp(s:List UInt8):I (dh s)<=I s:=by
 have:=lY s (I s) 0 O;exact XL this (Nat.sub_le ..)
def Un.ok(u:Un):Bool:=u.r !=65533||u.size==3
def dA(s:ByteArray):Bool:=(dh s.data.toList).all Un.ok
def yr(s:ByteArray):ByteArray:=⟨(AI s.data.toList).toArray⟩
def xi{s:ByteArray}(h:dA s=true):We s.data.toList:=by
 intro p d;rw[<-AL]at d;obtain⟨u,g,rfl⟩:=Y7.1 d;have H:=Y6.1 h u g;have i:=(AM _ u g).1;simp only[Un.ok,Bool.or_eq_true,bne_iff_ne,Zo]at H;rcases H with H|H
 ·exact .inl H
 ·refine .inr ?_;show(J u.size (ww u.at_ s.data.toList)).length=3;rw[Xo,XD,<-H];omega
def JQ{s t:ByteArray}(g:dA s=true)(i:dA t=true)(h:yr s=yr t):s=t:=by
 have d:AI s.data.toList=AI t.data.toList:=by
  have:=If (λ b:ByteArray=>b.data.toList) h;simpa[yr]using this
 have H:=JP (xi g) (xi i) d;obtain⟨⟨x⟩⟩:=s;obtain⟨⟨y⟩⟩:=t;simp at H;rw[H]
end Go.Kw
namespace Go.Kw
section
variable {α:Type} {R:α->α->Prop} [DecidableRel R]
def zu(R:α->α->Prop)[DecidableRel R](l:List α)(x:α):Nat:=I (l.takeWhile λ y=>decide (R y x))
def k6(R:α->α->Prop)[DecidableRel R](l:List α)(x:α):List α:=J (zu R l x) l++x::ww (zu R l x) l
def Db(l:List α)(x:α):zu R l x<=I l:=(takeWhile_sublist _).length_le
def iD{y x:α}{r:List α}(h:R y x):zu R (y::r) x=zu R r x+1:=by simp[zu,h]
def iE{y x:α}{r:List α}(h:¬ R y x):zu R (y::r) x=0:=by simp[zu,h]
def JR{x:α}:∀ {l:List α} {k:Nat} {y:α},k<zu R l x->l[k]? =some y->R y x
 |[],k,y,h,hy=>by simp at hy
 |z::r,k,y,h,hy=>by
  by_cases H:R z x
  ·rw[iD H]at h;cases k with
   |zero=>simp at hy;subst hy;exact H
   |succ k=>exact JR (l:=r) (k:=k) O a4y
  ·rw[iE H]at h;omega
def JS{x:α}:∀ {l:List α} {y:α},l[zu R l x]? =some y->¬ R y x
 |[],y,hy=>by simp at hy
 |z::r,y,hy=>by
  by_cases H:R z x
  ·rw[iD H]at hy;exact JS (l:=r) a4y
  ·rw[iE H]at hy;simp at hy;subst hy;exact H
def yu{l:List α}{x:α}{k:Nat}(H:k<=I l)(h1:∀ j y,j<k->l[j]? =some y->R y x)(h2:∀ y,l[k]? =some y->¬ R y x):zu R l x=k:=by
 rcases ZU (zu R l x) k with h|h|h
 ·have t:zu R l x<I l:=O
  exact absurd (h1 _ _ h (py t)) (JS (py t))
 ·exact h
 ·have t:k<I l:=by have:=Db (R:=R) l x;omega
  exact absurd (JR h (py t)) (h2 _ (py t))
def AN{l:List α}{x y:α}:y∈k6 R l x↔y=x\/y∈l:=by
 unfold k6;rw[XE,Xr];constructor
 ·rintro(h|h|h)
  ·exact .inr (XX h)
  ·exact .inl h
  ·exact .inr (Yf h)
 ·rintro(h|h)
  ·exact .inr (.inl h)
  ·rw[<-XV (zu R l x) l,XE]at h;rcases h with h|h
   ·exact .inl h
   ·exact .inr (.inr h)
def xj(l:List α)(x:α):(k6 R l x).Perm (x::l):=by
 unfold k6;have h:=a2x (a:=x) (l₁:=J (zu R l x) l) (l₂:=ww (zu R l x) l);rwa[XV]at h
def AO(l:List α)(x:α):I (k6 R l x)=I l+1:=by simpa using(xj (R:=R) l x).length_eq
def vV{y x:α}{r:List α}(h:R y x):k6 R (y::r) x=y::k6 R r x:=by simp[k6,iD h]
def vW{y x:α}{r:List α}(h:¬ R y x):k6 R (y::r) x=x::y::r:=by simp[k6,iE h]
def tZ(tr:∀ {a b c},R a b->R b c->R a c){x:α}:∀ {l:List α},l.Pairwise R->(∀ y∈l,¬ R y x->R x y)->(k6 R l x).Pairwise R
 |[],_,_=>by simp[k6]
 |y::r,hl,hx=>by
  obtain⟨g,i⟩:=XY.1 hl;by_cases h:R y x
  ·rw[vV h,XY];refine⟨λ z H=>?_,tZ tr i λ z H=>hx z (Ya _ H)⟩;rcases AN.1 H with rfl|H
   ·exact h
   ·exact g z H
  ·have d:=hx y (Yp ..) h;rw[vW h,XY];refine⟨λ z H=>?_,hl⟩;rcases Xr.1 H with rfl|H
   ·exact d
   ·exact tr d (g z H)
def ou(irr:∀ a,¬ R a a)(tr:∀ {a b c},R a b->R b c->R a c):∀ {a b:List α},a.Pairwise R->b.Pairwise R->(∀ x,x∈a↔x∈b)->a=b
 |[],[],_,_,_=>rfl
 |[],y::r,_,_,h=>by have:=(h y).2 (Yp ..);cases this
 |x::r,[],_,_,h=>by have:=(h x).1 (Yp ..);cases this
 |x::r,y::s,ha,hb,h=>by
  obtain⟨A,i⟩:=XY.1 ha;obtain⟨g,j⟩:=XY.1 hb;have d:x=y:=by
   rcases Xr.1 ((h x).1 (Yp ..))with e|e
   ·exact e
   ·rcases Xr.1 ((h y).2 (Yp ..))with E|E
    ·exact E.symm
    ·exact absurd (tr (A y E) (g x e)) (irr x)
  subst d;rw[ou irr tr i j λ z=>?_];constructor
  ·intro H;rcases Xr.1 ((h z).1 (Ya _ H))with e|e
   ·subst e;exact absurd (A z H) (irr z)
   ·exact e
  ·intro H;rcases Xr.1 ((h z).2 (Ya _ H))with e|e
   ·subst e;exact absurd (g z H) (irr z)
   ·exact e
def Eu(irr:∀ a,¬ R a a)(asy:∀ {a b},R a b->¬ R b a){x:α}:∀ {l:List α},l.Pairwise R->x∈l->l[zu R l x]? =some x
 |[],_,h=>by cases h
 |y::r,hl,h=>by
  obtain⟨H,d⟩:=XY.1 hl;rcases Xr.1 h with rfl|h
  ·rw[iE (irr _)];rfl
  ·rw[iD (H x h)];simpa using Eu irr asy d h
end
def SLt(a b:ByteArray):Prop:=a.data.toList<b.data.toList
instance:DecidableRel SLt:=λ a b=>inferInstanceAs (Decidable (a.data.toList<b.data.toList))
def k7{a b:ByteArray}(h:a.data.toList=b.data.toList):a=b:=by
 obtain⟨⟨x⟩⟩:=a;obtain⟨⟨y⟩⟩:=b;simp at h;rw[h]
def SLt.vJ(a:ByteArray):¬ SLt a a:=List.lt_irrefl _
def SLt.tr{a b c:ByteArray}(h:SLt a b)(k:SLt b c):SLt a c:=List.lt_trans h k
def SLt.Uf{a b:ByteArray}(h:SLt a b):¬ SLt b a:=λ k=>SLt.vJ a (h.tr k)
theorem SLt.ML{a b:ByteArray}(h:¬ SLt a b)(k:a≠b):SLt b a:=by
 rcases a0y (SLt b a)with H|H
 ·exact H
 ·exact absurd (k7 (List.le_antisymm (List.not_lt.1 H) (List.not_lt.1 h))) k
abbrev Asc(l:List ByteArray):Prop:=l.Pairwise SLt
abbrev dL(l:List ByteArray)(w:ByteArray):Nat:=zu SLt l w
def Asc.eq{a b:List ByteArray}(H:Asc a)(d:Asc b)(h:∀ x,x∈a↔x∈b):a=b:=ou SLt.vJ SLt.tr H d h
theorem Asc.get{l:List ByteArray}(h:Asc l){w:ByteArray}(hw:w∈l):l[dL l w]? =some w:=Eu SLt.vJ SLt.Uf h hw
theorem Asc.ins{l:List ByteArray}(h:Asc l){w:ByteArray}(hw:w∉l):Asc (k6 SLt l w):=tZ (R:=SLt) (λ h k=>SLt.tr h k) h λ y d H=>SLt.ML H λ(e:y=w)=>hw (e▸d)
theorem Asc.lt{l:List ByteArray}(h:Asc l){i j:Nat}{x y:ByteArray}(k:l[i]? =some x)(o:l[j]? =some y)(H:i<j):SLt x y:=by
 obtain⟨d,rfl⟩:=KC.1 k;obtain⟨g,rfl⟩:=KC.1 o;exact YJ.1 h i j d g H
def Asc.inj{l:List ByteArray}(h:Asc l){i j:Nat}{x:ByteArray}(H:l[i]? =some x)(y:l[j]? =some x):i=j:=by
 rcases ZU i j with e|e|e
 ·exact absurd (h.lt H y e) (SLt.vJ x)
 ·exact e
 ·exact absurd (h.lt y H e) (SLt.vJ x)
def u3{α:Type}{M:List α->Prop}(h0:M [])(h1:∀ l x,M l->M (l++[x]))(l:List α):M l:=by
 have:∀ r:List α,M r.reverse:=λ r=>by
  induction r with
  |nil=>exact h0
  |cons x r i=>rw[reverse_cons];exact h1 _ _ i
 simpa using this l.reverse
def im(vs:List ByteArray)(w:ByteArray):Nat:=vs.countP λ x=>decide (x=w)
def lZ(vs:List ByteArray)(v w:ByteArray):im (vs++[v]) w=im vs w+(if v=w then 1 else 0):=by
 simp only[im,a2h,countP_cons,countP_nil,XS];omega
def JT{vs:List ByteArray}{w:ByteArray}(h:w∉vs):im vs w=0:=a1h.2 λ x H=>by simp;exact λ e=>h (e▸H)
def Og{vs:List ByteArray}{w:ByteArray}(h:w∈vs):1<=im vs w:=countP_pos_iff.2 ⟨w,h,bw⟩
def JU(vs:List ByteArray)(w:ByteArray):im vs w<=I vs:=a2t
def addW(W:List ByteArray)(v:ByteArray):List ByteArray:=if W[dL W v]? =some v then W else k6 SLt W v
def ah(vs:List ByteArray):List ByteArray:=vs.foldl addW []
def aJ(vs:List ByteArray):List Nat:=(ah vs).map (im vs)
def dY(vs:List ByteArray)(v:ByteArray):ah (vs++[v])=addW (ah vs) v:=by simp[ah]
def Hg{W:List ByteArray}(h:Asc W)(v:ByteArray):Asc (addW W v)/\∀ x,x∈addW W v↔x=v\/x∈W:=by
 unfold addW;split
 ·rename_i hk
  have H:=Xs hk;exact⟨h,λ x=>⟨.inr,λ g=>g.elim (λ e=>e▸H) id⟩⟩
 ·rename_i hk
  have d:v∉W:=λ H=>hk (h.get H);exact⟨h.ins d,λ x=>AN⟩
def rL(vs:List ByteArray):Asc (ah vs)/\∀ x,x∈ah vs↔x∈vs:=by
 induction vs using u3 with
 |h0=>exact⟨List.Pairwise.nil,λ x=>Iff.rfl⟩
 |h1 vs v i=>
  rw[dY];obtain⟨h1,H⟩:=Hg i.1 v;refine⟨h1,λ x=>?_⟩;rw[H,i.2,XE,XJ];exact Or.comm
def eC(vs:List ByteArray):Asc (ah vs):=(rL vs).1
def cT{vs:List ByteArray}{x:ByteArray}:x∈ah vs↔x∈vs:=(rL vs).2 x
def kU{vs:List ByteArray}{v:ByteArray}(h:v∈vs):(ah vs)[dL (ah vs) v]? =some v:=(eC vs).get (cT.2 h)
def AP(W:List ByteArray)(v:ByteArray):I W<=I (addW W v)/\I (addW W v)<=I W+1:=by
 unfold addW;split
 ·omega
 ·rw[AO];omega
def bZ(vs:List ByteArray):I (ah vs)<=I vs:=by
 induction vs using u3 with
 |h0=>simp[ah]
 |h1 vs v i=>
  rw[dY,AT];have:=(AP (ah vs) v).2;simp;omega
def fO(vs:List ByteArray):I (aJ vs)=I (ah vs):=by simp[aJ]
def pI{vs:List ByteArray}{v:ByteArray}(h:(ah vs)[dL (ah vs) v]? =some v):
  ∃ c,(aJ vs)[dL (ah vs) v]? =some c/\aJ (vs++[v])=(aJ vs).set (dL (ah vs) v) (c+1):=by
 refine⟨im vs v,by simp[aJ,h],?_⟩;have e:ah (vs++[v])=ah vs:=by rw[dY,addW,Xp h]
 unfold aJ;rw[e];have t:=(KC.1 h).1;apply ZC;intro j;rw[YQ];by_cases H:dL (ah vs) v=j
 ·subst H;rw[Xp Y,XF,h,Xp (by simpa using t)];simp[lZ]
 ·rw[Xn H,XF,XF];cases d:(ah vs)[j]? with
  |none=>rfl
  |some x=>
   have:v≠x:=λ e=>H ((eC vs).inj h (e▸d));simp[lZ,this]
def u4{vs:List ByteArray}{v:ByteArray}(h:¬ (ah vs)[dL (ah vs) v]? =some v):
  aJ (vs++[v])=J (dL (ah vs) v) (aJ vs)++1::ww (dL (ah vs) v) (aJ vs):=by
 have d:v∉vs:=λ i=>h (kU i);have e:ah (vs++[v])=k6 SLt (ah vs) v:=by rw[dY,addW,Xn h]
 unfold aJ;rw[e,k6,Y0,XZ,<-a0d,<-map_drop];have E:∀ l:List ByteArray,(∀ x∈l,x∈ah vs)->l.map (im (vs++[v]))=l.map (im vs):=λ l g=>Zl λ x H=>by
  have:v≠x:=λ e=>d (e▸cT.1 (g x H));simp[lZ,this]
 rw[E _ λ x H=>XX H,E _ λ x H=>Yf H,lZ,Xp Y,JT d]
def sd{vs K:List ByteArray}(q:K.Nodup)(o:∀ x,x∈K↔x∈vs):
  (((K.map λ s=>s.data.toList).mergeSort λ x y=>decide (x<=y)).map λ l=>(⟨l.toArray⟩:ByteArray))=ah vs:=by
 have p:=mergeSort_perm (K.map λ s=>s.data.toList) (λ x y=>decide (x<=y));have r:((K.map λ s=>s.data.toList).mergeSort λ x y=>decide (x<=y)).Pairwise λ x y=>decide (x<=y)=true:=pairwise_mergeSort (λ a b c H d=>by simp at*;exact List.le_trans H d) (λ a b=>by simp;exact List.le_total a b) _;have i:((K.map λ s=>s.data.toList).mergeSort λ x y=>decide (x<=y)).Nodup:=by
  refine(List.Perm.nodup_iff p).2 ?_;rw[List.Nodup,a1y];exact q.imp λ h e=>h (k7 e)
 refine Asc.eq ?_ (eC vs) λ x=>?_
 ·show List.Pairwise SLt _;rw[a1y];refine(r.and i).imp λ{a b} h=>?_;obtain⟨H,d⟩:=h;show a<b;simp at H;rcases a0y (a<b)with g|g
  ·exact g
  ·exact absurd (List.le_antisymm H (List.not_lt.1 g)) d
 ·rw[cT,<-o,Y7];constructor
  ·rintro⟨l,k,rfl⟩;obtain⟨s,j,rfl⟩:=Y7.1 (p.mem_iff.1 k);have:(⟨s.data.toList.toArray⟩:ByteArray)=s:=bw
   rw[this];exact j
  ·intro t;exact⟨x.data.toList,p.mem_iff.2 (Y7.2 ⟨x,t,Y⟩),bw⟩
def sE(W:List ByteArray)(i:Nat):ByteArray:=yr (W.getD i wt)
def MI(W:List ByteArray)(i j:Nat):Prop:=SLt (sE W i) (sE W j)
instance(W:List ByteArray):DecidableRel (MI W):=λ i j=>inferInstanceAs (Decidable (SLt _ _))
def okW(W:List ByteArray):Prop:=Asc W/\∀ w∈W,dA w=true
def okW.Ud{W:List ByteArray}(h:okW W){i j:Nat}(g:i<I W)(hj:j<I W)(e:sE W i=sE W j):i=j:=by
 have H:W[i]? =some W[i]:=py g;have d:W[j]? =some W[j]:=py hj;have E:W.getD i wt=W[i]:=by simp[KV,H]
 have k:W.getD j wt=W[j]:=by simp[KV,d]
 unfold sE at e;rw[E,k]at e;have:=JQ (h.2 _ (a0m g)) (h.2 _ (a0m hj)) e;exact h.1.inj H (by rw[d,<-this])
theorem okW.ML{W:List ByteArray}(h:okW W){i j:Nat}(d:i<I W)(hj:j<I W)(H:i≠j)(g:¬ MI W i j):MI W j i:=SLt.ML g λ e=>H (h.Ud d hj e)
def AQ(W:List ByteArray)(n:Nat):List Nat:=(List.range n).foldl (k6 (MI W)) []
def ordN(W:List ByteArray):List Nat:=AQ W (I W)
def xk(W:List ByteArray)(n:Nat):AQ W (n+1)=k6 (MI W) (AQ W n) n:=by simp[AQ,YK]
def qM(W:List ByteArray):∀ n,(AQ W n).Perm (List.range n)
 |0=>by simp[AQ]
 |n+1=>by
  rw[xk,YK];exact(xj _ _).trans (((qM W n).cons n).trans (perm_append_singleton n (List.range n)).symm)
def AR{W:List ByteArray}(h:okW W):∀ n,n<=I W->(AQ W n).Pairwise (MI W)
 |0,_=>by simp[AQ]
 |n+1,hn=>by
  rw[xk];refine tZ (R:=MI W) (λ d g=>SLt.tr d g) (AR h n O) λ y i H=>?_;have:=Zt.1 ((qM W n).mem_iff.1 i);exact h.ML O O O H
def Hh(W:List ByteArray):(ordN W).Perm (List.range (I W)):=qM W _
def JV{W:List ByteArray}{i:Nat}:i∈ordN W↔i<I W:=by rw[(Hh W).mem_iff,Zt]
def AS{W:List ByteArray}(h:okW W){l:List Nat}(p:l.Perm (List.range (I W)))(q:l.Pairwise λ i j=>¬ MI W j i):l=ordN W:=by
 have k:l.Nodup:=p.nodup_iff.2 nodup_range;refine ou (R:=MI W) (λ a=>SLt.vJ _) (λ r t=>SLt.tr r t) ?_ (AR h _ (KM _)) λ x=>?_
 ·have o:∀ x∈l,x<I W:=λ x u=>Zt.1 (p.mem_iff.1 u);rw[YJ]at q⊢;intro i j d H g;refine h.ML (o _ (a0m H)) (o _ (a0m d)) (λ e=>?_) (q i j d H g);have:=(getElem?_inj H k (j:=i)).1 (by rw[py H,py d,e]);omega
 ·rw[p.mem_iff,Zt,JV]
