/-
 KSC:structs of strings,numbers and truths compared. Our own text;it names no program.
-/
import Derived.Test.YthffkcnbdehceaaGreatKb
import Derived.Test.YthffkcnbdehceaaGreatM06
import Derived.Test.YthffkcnbdehceaaGreatM16
set_option linter.all false
open Go.Proofs.YthffkcnbdehceaaGreat
open List
namespace Go.Kw
open Go.RowKit
inductive SK where
 |s
 |b
 |i (k:IntKind)
def Kq:SK->Value->Bool
 | .s,.string _=>true
 | .b,.bool _=>true
 | .i k,.int k' _=>decide (k=k')
 |_,_=>false
def Bh:List SK->List Value->Bool
 |[],[]=>true
 |k::ks,v::vs=>Kq k v&&Bh ks vs
 |_,_=>false
def OS:Value->Value->Bool
 | .string a,.string b=>decide (a=b)
 | .bool a,.bool b=>decide (a=b)
 | .int _ a,.int _ b=>decide (a=b)
 |_,_=>false
def eqVs:List Value->List Value->Bool
 |[],[]=>true
 |a::r,b::s=>cond (OS a b) (eqVs r s) false
 |_,_=>false
def QF:Option TypeDesc->Bool
 |some .string=>true
 |_=>false
def QG:Option TypeDesc->Bool
 |some .bool=>true
 |_=>false
def QH:Option TypeDesc->Bool
 |some (.int _)=>true
 |_=>false
def Nj(P:Program)(t:TypeId):SK->Bool
 | .s=>QF (P.underlying t)
 | .b=>QG (P.underlying t)
 | .i _=>QH (P.underlying t)
def GZ{o:Option TypeDesc}(h:QF o=true):o=some .string:=by
 unfold QF at h;split at h
 ·rfl
 ·cases h
def H0{o:Option TypeDesc}(h:QG o=true):o=some .bool:=by
 unfold QG at h;split at h
 ·rfl
 ·cases h
def H2{o:Option TypeDesc}(h:QH o=true):∃ q,o=some (.int q):=by
 unfold QH at h;split at h
 ·exact⟨_,Y⟩
 ·cases h
def Ct(P:Program):List Field->List SK->Nat->Bool
 |[],[],_=>true
 | f :: fs, k :: ks, j => f.name != "_" && (f.offset == j && (Nj P f.type k && ((match P.info? f.type with | some i => i.size == 1 | none => false) && Ct P fs ks (j + 1))))
 |_,_,_=>false
def uV(P:Program)(t:TypeId)(ks:List SK):Bool:=
 match P.underlying t with
 |some (.struct fs)=>Ct P fs.toList ks 0&&(!P.eqGuardType P.depth t&& !P.stoodInHeld t)
 |_=>false
section
variable {P:Program} {n:Nat} {L:aA} {w w0:World} {d:Option Nat} {ty:TypeId} {pos:String} {af:Array Edge} {g:Option (Nat×Bool)}
def uW{ft:TypeId}{vs:Array Value}{j:Nat}{v:Value}{k:SK}(hk:Nj P ft k=true)(hz:(match P.info? ft with|some i=>i.size==1|none=>false)=true)(hv:vs[j]? =some v)(w:World):(part ft vs j).run P w= .ok v w:=by
 obtain⟨i,hi,hs⟩:∃ i,P.info? ft=some i/\i.size=1:=by
  cases hin:P.info? ft with
  |none=>rw[hin]at hz;cases hz
  |some i=>rw[hin]at hz;exact⟨i,Y,by simpa using hz⟩
 have hv2:vs[j]! =v:=by rw[getElem!_def,hv]
 cases k with
 |s=>
  have hu:P.underlying ft=some .string:=GZ hk;simp[part,isAgg,Rt hu,sizeOf,typeInfo,hi,hs,hv]
 |b=>
  have hu:P.underlying ft=some .bool:=H0 hk;simp[part,isAgg,Rt hu,sizeOf,typeInfo,hi,hs,hv]
 |i q=>
  obtain⟨q',hu⟩:∃ q',P.underlying ft=some (.int q'):=H2 hk;simp[part,isAgg,Rt hu,sizeOf,typeInfo,hi,hs,hv]
def Nk(a b:ByteArray):(a.toList==b.toList)=decide (a=b):=by
 by_cases h:a=b
 ·subst h;simp
 ·rw[AT h];refine beq_false_of_ne λ e=>h ?_;rw[TW,TW]at e;cases a;cases b;simp only[ByteArray.mk.injEq];exact Array.toList_inj.1 e
def Kr{ft:TypeId}{k:SK}{u v:Value}(hk:Nj P ft k=true)(hu:Kq k u=true)(hv:Kq k v=true)(d:Nat)(w:World):(Op.equalIn (d+1) ft u v).run P w= .ok (OS u v) w:=by
 cases k with
 |s=>
  have ht:P.underlying ft=some .string:=GZ hk;cases u<;>try cases hu
  cases v<;>try cases hv
  rw[run_equalIn_string w d ft _ _ ht,Nk];rfl
 |b=>
  have ht:P.underlying ft=some .bool:=H0 hk;cases u<;>try cases hu
  cases v<;>try cases hv
  rw[run_equalIn_bool' w d ft _ _ ht];rfl
 |i q=>
  obtain⟨q',ht⟩:∃ q',P.underlying ft=some (.int q'):=H2 hk;cases u<;>try cases hu
  cases v<;>try cases hv
  simp only[Kq,Ss]at hu hv;subst hu;subst hv;rw[run_equalIn_int w d ft _ _ _ _ ht];rfl
def Cu{d:Nat}:∀ (fs:List Field) (ks:List SK) (j:Nat) (us vs:List Value) (U V:Array Value) (w:World),Ct P fs ks j=true->Bh ks us=true->Bh ks vs=true->(∀ m,us[m]? =U[j+m]?)->(∀ m,vs[m]? =V[j+m]?)->
  (Op.eqFields (d+1) U V fs).run P w= .ok (eqVs us vs) w
 |[],[],_,[],[],_,_,w,_,_,_,_,_=>by simp[Op.eqFields,eqVs]
 |f::fs,k::ks,j,u::us,v::vs,U,V,w,h,hu,hv,hU,hV=>by
  simp only[Ct,RC,bne_iff_ne,ne_eq,U0]at h;obtain⟨h1,h2,h3,h4,h5⟩:=h;simp only[Bh,RC]at hu hv;have e1:U[j]? =some u:=by have:=hU 0;simpa using this.symm
  have e2:V[j]? =some v:=by have:=hV 0;simpa using this.symm
  have ih:=Cu (d:=d) fs ks (j+1) us vs U V w h5 hu.2 hv.2 (λ m=>by have:=hU (m+1);rw[U8]at this;rw[this,show j+(m+1)=j+1+m by omega]) (λ m=>by have:=hV (m+1);rw[U8]at this;rw[this,show j+(m+1)=j+1+m by omega]);simp only[Op.eqFields,ne_eq,h1,not_false_eq_true,TJ,h2,RA,uW h3 h4 e1,uW h3 h4 e2,Rs,Kr h3 hu.1 hv.1,eqVs];cases OS u v with
  |true=>simp[ih]
  |false=>simp
def Ev.R5{x y:Operand}{t xt:TypeId}{us vs:List Value}{ks:List SK}(hT:uV P t ks=true)(hx:aJ L x=some (.agg us.toArray))(hy:aJ L y=some (.agg vs.toArray))(hu:Bh ks us=true)(hv:Bh ks vs=true):
  Ev P n L w ⟨d,.binOp .neq t x y xt,ty,pos,af,g⟩ (.bool (!eqVs us vs)):=.of λ ρ hρ=>by
 unfold uV at hT;split at hT
 ·rename_i fs hfs
  simp only[RC,Vu]at hT;obtain⟨h1,h2,h3⟩:=hT;have hfo:P.fieldsOf t=fs:=by unfold Program.fieldsOf;rw[hfs]
  have he:∀ w,(Op.equalIn 10000 t (.agg us.toArray) (.agg vs.toArray)).run P w= .ok (eqVs us vs) w:=λ w=>by
   rw[show(10000:Nat)=9999+1 from Y,run_equalIn_agg w 9999 t _ _ (by rw[hfo];exact hfs) h3,hfo];exact Cu (d:=9998) fs.toList ks 0 us vs _ _ w h1 hu hv (λ m=>by simp) (λ m=>by simp)
  simp only[execOp,hρ hx,hρ hy,RA,run_eqGuard_agg w .neq t _ _ _ _ h2,Rs,run_neq_struct,he,RJ]
 ·cases hT
structure EqE{α:Type}(E:Enc α)(ks:List SK):Prop where
 ok:∀ a,Bh ks (E.enc a)=true
 eq:∀ a b,eqVs (E.enc a) (E.enc b)=true↔a=b
def Ev.Ow{α:Type}[DecidableEq α]{E:Enc α}{ks:List SK}(hE:EqE E ks){x y:Operand}{t xt:TypeId}{a b:α}(hT:uV P t ks=true)(hx:aJ L x=some (E.ag a))(hy:aJ L y=some (E.ag b)):
  Ev P n L w ⟨d,.binOp .neq t x y xt,ty,pos,af,g⟩ (.bool (decide (a≠b))):=by
 have h:=Ev.R5 (P:=P) (n:=n) (w:=w) (d:=d) (ty:=ty) (pos:=pos) (af:=af) (g:=g) (xt:=xt) hT hx hy (hE.ok a) (hE.ok b);have e:(!eqVs (E.enc a) (E.enc b))=decide (a≠b):=by
  by_cases q:a=b
  ·rw[(hE.eq a b).2 q];simp[q]
  ·have:eqVs (E.enc a) (E.enc b)=false:=by
    cases hq:eqVs (E.enc a) (E.enc b)with
    |true=>exact absurd ((hE.eq a b).1 hq) q
    |false=>rfl
   rw[this];simp[q]
 rwa[e]at h
end
instance:DecidableEq Nd:=λ a b=>
 if h:a.nm=b.nm/\a.b=b.b/\a.e=b.e/\a.p=b.p then isTrue (by cases a;cases b;simp only[Nd.mk.injEq];exact h)else isFalse λ e=>h (by subst e;exact⟨Y,Y,Y,Y⟩)
def Nl:EqE aU [.s,.s]:=⟨λ a=>Y,λ a b=>by
 obtain⟨a1,a2⟩:=a;obtain⟨b1,b2⟩:=b;by_cases h1:a1=b1<;>by_cases h2:a2=b2<;>simp[aU,eqVs,OS,h1,h2]⟩
def Nn:EqE cP [.s,.b]:=⟨λ a=>Y,λ a b=>by
 obtain⟨a1,a2⟩:=a;obtain⟨b1,b2⟩:=b;by_cases h1:a1=b1<;>by_cases h2:a2=b2<;>simp[cP,eqVs,OS,h1,h2]⟩
def Np:EqE bI [.s,.i .i64,.i .i64,.i .i64]:=⟨λ a=>Y,λ a b=>by
 obtain⟨a1,a2,a3,a4⟩:=a;obtain⟨b1,b2,b3,b4⟩:=b;by_cases h1:a1=b1<;>by_cases h2:a2=b2<;>by_cases h3:a3=b3<;>by_cases h4:a4=b4<;>simp[bI,eqVs,OS,h1,h2,h3,h4]⟩
end Go.Kw
namespace Go.Kw
def eV{α β:Type}{l:List α}{m:List β}{k:Nat}{x:α}{y:β}{Q:α->β->Prop}(h:∀ (j:Nat) s t,j<k->l[j]? =some s->m[j]? =some t->Q s t)(hx:l[k]? =some x)(hy:m[k]? =some y)(q:Q x y):∀ (j:Nat) s t,j<k+1->l[j]? =some s->m[j]? =some t->Q s t:=λ j s t hj hs ht=>by
 rcases RG j k with r|r
 ·exact h j s t r hs ht
 ·have e:j=k:=by omega
  subst e;rw[hx]at hs;rw[hy]at ht;cases hs;cases ht;exact q
def qB{α β γ:Type}{f:α->γ}{g:β->γ}{l:List α}{m:List β}{k:Nat}(hl:l.length=m.length)(h:∀ (j:Nat) s t,j<k->l[j]? =some s->m[j]? =some t->f s=g t)(hk:l.length<=k):l.map f=m.map g:=by
 apply UH (by simpa using hl);intro i h1 h2;rw[getElem_map,getElem_map];rw[Rq]at h1 h2;exact h i _ _ (by omega) (py h1) (py h2)
def lF{α:Type}{l m:List α}{k:Nat}(hl:l.length=m.length)(h:∀ (j:Nat) s t,j<k->l[j]? =some s->m[j]? =some t->s=t)(hk:l.length<=k):l=m:=by
 have:=qB (f:=id) (g:=id) hl h hk;simpa using this
def jH{α β γ:Type}{f:α->γ}{g:β->γ}{l:List α}{m:List β}{k:Nat}{x:α}{y:β}(e:l.map f=m.map g)(hx:l[k]? =some x)(hy:m[k]? =some y):f x=g y:=by
 have h:(l.map f)[k]? =(m.map g)[k]? :=by rw[e]
 rw[Rz,Rz,hx,hy]at h;exact SC h
def get_eq{α:Type}{l m:List α}{k:Nat}{x y:α}(e:l=m)(hx:l[k]? =some x)(hy:m[k]? =some y):x=y:=by subst e;rw[hx]at hy;exact SC hy
def P9{a b:Co}(h:((((((¬ a.at_=b.at_)\/a.tk.length≠b.tk.length)\/a.tx.length≠b.tx.length)\/a.rg.length≠b.rg.length)\/a.nd.length≠b.nd.length)\/a.hd.length≠b.hd.length)\/a.rl.length≠b.rl.length):¬ a.v=b.v:=λ e=>by
 have e1:a.at_=b.at_:=If pE.at_ e;have e2:(a.tk.map (·.ns)).length=(b.tk.map (·.ns)).length:=If (λ v=>(pE.tk v).length) e;have e3:(a.tx.map Iv.v).length=(b.tx.map Iv.v).length:=If (λ v=>(pE.tx v).length) e;have e4:(a.rg.map Iv.v).length=(b.rg.map Iv.v).length:=If (λ v=>(pE.rg v).length) e;have e5:a.nd.length=b.nd.length:=If (λ v=>(pE.nd v).length) e;have e6:a.hd.length=b.hd.length:=If (λ v=>(pE.hd v).length) e;have e7:a.rl.length=b.rl.length:=If (λ v=>(pE.rl v).length) e;simp only[Rq]at e2 e3 e4;rcases h with(((((h|h)|h)|h)|h)|h)|h
 ·exact h e1
 ·exact h e2
 ·exact h e3
 ·exact h e4
 ·exact h e5
 ·exact h e6
 ·exact h e7
def Nq{a b:Co}(h:¬ (((((((¬ a.at_=b.at_)\/a.tk.length≠b.tk.length)\/a.tx.length≠b.tx.length)\/a.rg.length≠b.rg.length)\/a.nd.length≠b.nd.length)\/a.hd.length≠b.hd.length)\/a.rl.length≠b.rl.length)):a.at_=b.at_/\a.tk.length=b.tk.length/\a.tx.length=b.tx.length/\a.rg.length=b.rg.length/\a.nd.length=b.nd.length/\a.hd.length=b.hd.length/\a.rl.length=b.rl.length:=by
 simp only[not_or,Sj,ne_eq]at h;obtain⟨⟨⟨⟨⟨⟨h1,h2⟩,h3⟩,h4⟩,h5⟩,h6⟩,h7⟩:=h;exact⟨h1,h2,h3,h4,h5,h6,h7⟩
def Mg{x y:Iv}(h:(((x.nm≠y.nm)\/x.b≠y.b)\/x.e≠y.e)\/¬ x.ps=y.ps):¬ x.v=y.v:=λ e=>by
 unfold Iv.v at e;simp only[RW]at e;rcases h with((h|h)|h)|h
 ·exact h e.1
 ·exact h e.2.1
 ·exact h e.2.2.1
 ·exact h e.2.2.2
def Mh{x y:Iv}(h:¬ ((((x.nm≠y.nm)\/x.b≠y.b)\/x.e≠y.e)\/¬ x.ps=y.ps)):x.v=y.v:=by
 simp only[not_or,Sj,ne_eq]at h;obtain⟨⟨⟨h1,h2⟩,h3⟩,h4⟩:=h;unfold Iv.v;rw[h1,h2,h3,h4]
structure Sm(c:Co):Prop where
 at_:c.at_.length<=5000
 tk:c.tk.length<=5000
 tx:c.tx.length<=5000
 rg:c.rg.length<=5000
 nd:c.nd.length<=5000
 hd:c.hd.length<=5000
 rl:c.rl.length<=5000
 tr:∀ t∈c.tk,t.ns.length<=5000
 xr:∀ t∈c.tx,t.ps.length<=5000
 rr:∀ t∈c.rg,t.ps.length<=5000
def OkC.sm{n:Nat}{c:Co}(h:OkC n c)(hn:n<=80):Sm c:=by
 have h1:=h.ntk;have h2:=h.ntx;have h3:=h.nrg;have h4:=h.nnd;have h5:=h.at_.2;have h6:=h.mu.1;have h7:c.hd.length<=c.tk.length:=by
  rcases SJ c.hd.length with q|q
  ·omega
  ·have:=(h.mu.2 q).len.1;omega
 exact⟨by omega,by omega,by omega,by omega,by omega,by omega,by omega,λ t ht=>by have:=(h.tk t ht).1;omega,λ t ht=>by have:=(h.tx.nm t ht).2.1.1;omega,λ t ht=>by have:=(h.rg.el t ht).2.2.1;omega⟩
