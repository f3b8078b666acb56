/-
 KSC:structs of strings,numbers and truths compared. Our own text;it names no program.
-/
import Derived.Test.YthffkcnbdehceaaGreatKy
import Derived.Test.YthffkcnbdehceaaGreatM06
open Go.Proofs.YthffkcnbdehceaaGreat
set_option linter.unusedVariables false
set_option linter.unusedSimpArgs false
set_option linter.unusedSectionVars false
namespace Go.Kw
open Go.RowKit
inductive SK where
 |s
 |b
 |i (k:IntKind)
def IS:SK->Value->Bool
 | .s,.string _=>true
 | .b,.bool _=>true
 | .i k,.int k' _=>decide (k=k')
 |_,_=>false
def Aa:List SK->List Value->Bool
 |[],[]=>true
 |k::ks,v::vs=>IS k v&&Aa ks vs
 |_,_=>false
def N3:Value->Value->Bool
 | .string a,.string b=>decide (a=b)
 | .bool a,.bool b=>decide (a=b)
 | .int _ a,.int _ b=>decide (a=b)
 |_,_=>false
def eqVs:List Value->List Value->Bool
 |[],[]=>true
 |a::r,b::s=>cond (N3 a b) (eqVs r s) false
 |_,_=>false
def OP:Option TypeDesc->Bool
 |some .string=>true
 |_=>false
def OQ:Option TypeDesc->Bool
 |some .bool=>true
 |_=>false
def OR:Option TypeDesc->Bool
 |some (.int _)=>true
 |_=>false
def Lo (P:Program) (t:TypeId):SK->Bool
 | .s=>OP (P.underlying t)
 | .b=>OQ (P.underlying t)
 | .i _=>OR (P.underlying t)
theorem Fo {o:Option TypeDesc} (h:OP o=true):o=some .string:=by
 unfold OP at h
 split at h
 ·rfl
 ·cases h
theorem Fp {o:Option TypeDesc} (h:OQ o=true):o=some .bool:=by
 unfold OQ at h
 split at h
 ·rfl
 ·cases h
theorem Fq {o:Option TypeDesc} (h:OR o=true):∃ q,o=some (.int q):=by
 unfold OR at h
 split at h
 ·exact ⟨_,rfl⟩
 ·cases h
def Bj (P:Program):List Field->List SK->Nat->Bool
 |[],[],_=>true
 | f :: fs, k :: ks, j => f.name != "_" && (f.offset == j && (Lo P f.type k && ((match P.info? f.type with | some i => i.size == 1 | none => false) && Bj P fs ks (j + 1))))
 |_,_,_=>false
def tN (P:Program) (t:TypeId) (ks:List SK):Bool:=
 match P.underlying t with
 |some (.struct fs)=>Bj P fs.toList ks 0&&(!P.eqGuardType P.depth t&& !P.stoodInHeld t)
 |_=>false
section
variable {P:Program} {n:Nat} {L:aB} {w w0:World} {d:Option Nat} {ty:TypeId} {pos:String} {af:Array Edge} {g:Option (Nat×Bool)}
theorem tO {ft:TypeId} {vs:Array Value} {j:Nat} {v:Value} {k:SK} (hk:Lo P ft k=true) (hz:(match P.info? ft with|some i=>i.size==1|none=>false)=true) (hv:vs[j]? =some v) (w:World):(part ft vs j).run P w= .ok v w:=by
 obtain ⟨i,hi,hs⟩:∃ i,P.info? ft=some i/\i.size=1:=by
  cases hin:P.info? ft with
  |none=>rw [hin] at hz;cases hz
  |some i=>rw [hin] at hz;exact ⟨i,rfl,by simpa using hz⟩
 have hv2:vs[j]! =v:=by rw [getElem!_def,hv]
 cases k with
 |s=>
  have hu:P.underlying ft=some .string:=Fo hk
  simp [part,isAgg,PN hu,sizeOf,typeInfo,hi,hs,hv]
 |b=>
  have hu:P.underlying ft=some .bool:=Fp hk
  simp [part,isAgg,PN hu,sizeOf,typeInfo,hi,hs,hv]
 |i q=>
  obtain ⟨q',hu⟩:∃ q',P.underlying ft=some (.int q'):=Fq hk
  simp [part,isAgg,PN hu,sizeOf,typeInfo,hi,hs,hv]
theorem Lp (a b:ByteArray):(a.toList==b.toList)=decide (a=b):=by
 by_cases h:a=b
 ·subst h;simp
 ·rw [IN h]
  refine beq_false_of_ne λ e=>h ?_
  rw [RR,RR] at e
  cases a;cases b
  simp only [ByteArray.mk.injEq]
  exact Array.toList_inj.1 e
theorem IT {ft:TypeId} {k:SK} {u v:Value} (hk:Lo P ft k=true) (hu:IS k u=true) (hv:IS k v=true) (d:Nat) (w:World):(Op.equalIn (d+1) ft u v).run P w= .ok (N3 u v) w:=by
 cases k with
 |s=>
  have ht:P.underlying ft=some .string:=Fo hk
  cases u<;>try cases hu
  cases v<;>try cases hv
  rw [run_equalIn_string w d ft _ _ ht,Lp];rfl
 |b=>
  have ht:P.underlying ft=some .bool:=Fp hk
  cases u<;>try cases hu
  cases v<;>try cases hv
  rw [run_equalIn_bool' w d ft _ _ ht];rfl
 |i q=>
  obtain ⟨q',ht⟩:∃ q',P.underlying ft=some (.int q'):=Fq hk
  cases u<;>try cases hu
  cases v<;>try cases hv
  simp only [IS,QC] at hu hv
  subst hu;subst hv
  rw [run_equalIn_int w d ft _ _ _ _ ht];rfl
theorem Bk {d:Nat}:∀ (fs:List Field) (ks:List SK) (j:Nat) (us vs:List Value) (U V:Array Value) (w:World),Bj P fs ks j=true->Aa ks us=true->Aa ks vs=true->(∀ m,us[m]? =U[j+m]?)->(∀ m,vs[m]? =V[j+m]?)->
  (Op.eqFields (d+1) U V fs).run P w= .ok (eqVs us vs) w
 |[],[],_,[],[],_,_,w,_,_,_,_,_=>by simp [Op.eqFields,eqVs]
 |f::fs,k::ks,j,u::us,v::vs,U,V,w,h,hu,hv,hU,hV=>by
  simp only [Bj,PY,bne_iff_ne,ne_eq,RZ] at h
  obtain ⟨h1,h2,h3,h4,h5⟩:=h
  simp only [Aa,PY] at hu hv
  have e1:U[j]? =some u:=by have:=hU 0;simpa using this.symm
  have e2:V[j]? =some v:=by have:=hV 0;simpa using this.symm
  have ih:=Bk (d:=d) fs ks (j+1) us vs U V w h5 hu.2 hv.2 (λ m=>by have:=hU (m+1);rw [List.getElem?_cons_succ] at this;rw [this,show j+(m+1)=j+1+m by omega]) (λ m=>by have:=hV (m+1);rw [List.getElem?_cons_succ] at this;rw [this,show j+(m+1)=j+1+m by omega])
  simp only [Op.eqFields,ne_eq,h1,not_false_eq_true,RA,h2,PS,tO h3 h4 e1,tO h3 h4 e2,PL,IT h3 hu.1 hv.1,eqVs]
  cases N3 u v with
  |true=>simp [ih]
  |false=>simp
theorem Ev.Ps {x y:Operand} {t xt:TypeId} {us vs:List Value} {ks:List SK} (hT:tN P t ks=true) (hx:aJ L x=some (.agg us.toArray)) (hy:aJ L y=some (.agg vs.toArray)) (hu:Aa ks us=true) (hv:Aa ks vs=true):
  Ev P n L w ⟨d,.binOp .neq t x y xt,ty,pos,af,g⟩ (.bool (!eqVs us vs)):= .of λ ρ hρ=>by
 unfold tN at hT
 split at hT
 ·rename_i fs hfs
  simp only [PY,Bool.not_eq_true'] at hT
  obtain ⟨h1,h2,h3⟩:=hT
  have hfo:P.fieldsOf t=fs:=by unfold Program.fieldsOf;rw [hfs]
  have he:∀ w,(Op.equalIn 10000 t (.agg us.toArray) (.agg vs.toArray)).run P w= .ok (eqVs us vs) w:=λ w=>by
   rw [show (10000:Nat)=9999+1 from rfl,run_equalIn_agg w 9999 t _ _ (by rw [hfo];exact hfs) h3,hfo]
   exact Bk (d:=9998) fs.toList ks 0 us vs _ _ w h1 hu hv (λ m=>by simp) (λ m=>by simp)
  simp only [execOp,hρ hx,hρ hy,PS,run_eqGuard_agg w .neq t _ _ _ _ h2,PL,run_neq_struct,he,PZ]
 ·cases hT
structure EqE {α:Type} (E:Enc α) (ks:List SK):Prop where
 ok:∀ a,Aa ks (E.enc a)=true
 eq:∀ a b,eqVs (E.enc a) (E.enc b)=true↔a=b
theorem Ev.MN {α:Type} [DecidableEq α] {E:Enc α} {ks:List SK} (hE:EqE E ks) {x y:Operand} {t xt:TypeId} {a b:α} (hT:tN P t ks=true) (hx:aJ L x=some (E.ag a)) (hy:aJ L y=some (E.ag b)):
  Ev P n L w ⟨d,.binOp .neq t x y xt,ty,pos,af,g⟩ (.bool (decide (a≠b))):=by
 have h:=Ev.Ps (P:=P) (n:=n) (w:=w) (d:=d) (ty:=ty) (pos:=pos) (af:=af) (g:=g) (xt:=xt) hT hx hy (hE.ok a) (hE.ok b)
 have e:(!eqVs (E.enc a) (E.enc b))=decide (a≠b):=by
  by_cases q:a=b
  ·rw [(hE.eq a b).2 q];simp [q]
  ·have:eqVs (E.enc a) (E.enc b)=false:=by
    cases hq:eqVs (E.enc a) (E.enc b) with
    |true=>exact absurd ((hE.eq a b).1 hq) q
    |false=>rfl
   rw [this];simp [q]
 rwa [e] at h
end
instance:DecidableEq Nd:=λ a b=>
 if h:a.nm=b.nm/\a.b=b.b/\a.e=b.e/\a.p=b.p then isTrue (by cases a;cases b;simp only [Nd.mk.injEq];exact h) else isFalse λ e=>h (by subst e;exact ⟨rfl,rfl,rfl,rfl⟩)
theorem Lq:EqE aU [.s,.s]:=⟨λ a=>rfl,λ a b=>by
 obtain ⟨a1,a2⟩:=a;obtain ⟨b1,b2⟩:=b
 by_cases h1:a1=b1<;>by_cases h2:a2=b2<;>simp [aU,eqVs,N3,h1,h2]⟩
theorem Lr:EqE cE [.s,.b]:=⟨λ a=>rfl,λ a b=>by
 obtain ⟨a1,a2⟩:=a;obtain ⟨b1,b2⟩:=b
 by_cases h1:a1=b1<;>by_cases h2:a2=b2<;>simp [cE,eqVs,N3,h1,h2]⟩
theorem Ls:EqE bE [.s,.i .i64,.i .i64,.i .i64]:=⟨λ a=>rfl,λ a b=>by
 obtain ⟨a1,a2,a3,a4⟩:=a;obtain ⟨b1,b2,b3,b4⟩:=b
 by_cases h1:a1=b1<;>by_cases h2:a2=b2<;>by_cases h3:a3=b3<;>by_cases h4:a4=b4<;>simp [bE,eqVs,N3,h1,h2,h3,h4]⟩
end Go.Kw
