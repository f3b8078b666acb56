/-
 KSC:structs of strings,numbers and truths compared. Our own text;it names no program.
-/
import Derived.Test.YthffkcnbdehceaaGreatKy
import Derived.Test.YthffkcnbdehceaaGreatM06
set_option linter.unusedVariables false
set_option linter.unusedSimpArgs false
set_option linter.unusedSectionVars false
namespace Go.Kw
open Go.RowKit
inductive SK where
 |s
 |b
 |i (k:IntKind)
def Jj:SK->Value->Bool
 | .s,.string _=>true
 | .b,.bool _=>true
 | .i k,.int k' _=>decide (k=k')
 |_,_=>false
def Bc:List SK->List Value->Bool
 |[],[]=>true
 |k::ks,v::vs=>Jj k v&&Bc ks vs
 |_,_=>false
def NI:Value->Value->Bool
 | .string a,.string b=>decide (a=b)
 | .bool a,.bool b=>decide (a=b)
 | .int _ a,.int _ b=>decide (a=b)
 |_,_=>false
def eqVs:List Value->List Value->Bool
 |[],[]=>true
 |a::r,b::s=>cond (NI a b) (eqVs r s) false
 |_,_=>false
def Pm:Option TypeDesc->Bool
 |some .string=>true
 |_=>false
def Pn:Option TypeDesc->Bool
 |some .bool=>true
 |_=>false
def Po:Option TypeDesc->Bool
 |some (.int _)=>true
 |_=>false
def M5 (P:Program) (t:TypeId):SK->Bool
 | .s=>Pm (P.underlying t)
 | .b=>Pn (P.underlying t)
 | .i _=>Po (P.underlying t)
theorem G8 {o:Option TypeDesc} (h:Pm o=true):o=some .string:=by
 unfold Pm at h
 split at h
 ·rfl
 ·cases h
theorem G9 {o:Option TypeDesc} (h:Pn o=true):o=some .bool:=by
 unfold Pn at h
 split at h
 ·rfl
 ·cases h
theorem Ga {o:Option TypeDesc} (h:Po o=true):∃ q,o=some (.int q):=by
 unfold Po at h
 split at h
 ·exact ⟨_,rfl⟩
 ·cases h
def Ch (P:Program):List Field->List SK->Nat->Bool
 |[],[],_=>true
 | f :: fs, k :: ks, j => f.name != "_" && (f.offset == j && (M5 P f.type k && ((match P.info? f.type with | some i => i.size == 1 | none => false) && Ch P fs ks (j + 1))))
 |_,_,_=>false
def vP (P:Program) (t:TypeId) (ks:List SK):Bool:=
 match P.underlying t with
 |some (.struct fs)=>Ch P fs.toList ks 0&&(!P.eqGuardType P.depth t&& !P.stoodInHeld t)
 |_=>false
section
variable {P:Program} {n:Nat} {L:ay} {w w0:World} {d:Option Nat} {ty:TypeId} {pos:String} {af:Array Edge} {g:Option (Nat×Bool)}
theorem vQ {ft:TypeId} {vs:Array Value} {j:Nat} {v:Value} {k:SK} (hk:M5 P ft k=true) (hz:(match P.info? ft with|some i=>i.size==1|none=>false)=true) (hv:vs[j]? =some v) (w:World):(part ft vs j).run P w= .ok v w:=by
 obtain ⟨i,hi,hs⟩:∃ i,P.info? ft=some i/\i.size=1:=by
  cases hin:P.info? ft with
  |none=>rw [hin] at hz;cases hz
  |some i=>rw [hin] at hz;exact ⟨i,rfl,by simpa using hz⟩
 have hv2:vs[j]! =v:=by rw [getElem!_def,hv]
 cases k with
 |s=>
  have hu:P.underlying ft=some .string:=G8 hk
  simp [part,isAgg,run_underlying hu,sizeOf,typeInfo,hi,hs,hv]
 |b=>
  have hu:P.underlying ft=some .bool:=G9 hk
  simp [part,isAgg,run_underlying hu,sizeOf,typeInfo,hi,hs,hv]
 |i q=>
  obtain ⟨q',hu⟩:∃ q',P.underlying ft=some (.int q'):=Ga hk
  simp [part,isAgg,run_underlying hu,sizeOf,typeInfo,hi,hs,hv]
theorem M6 (a b:ByteArray):(a.toList==b.toList)=decide (a=b):=by
 by_cases h:a=b
 ·subst h;simp
 ·rw [decide_eq_false h]
  refine beq_false_of_ne λ e=>h ?_
  rw [ByteArray.toList_eq,ByteArray.toList_eq] at e
  cases a;cases b
  simp only [ByteArray.mk.injEq]
  exact Array.toList_inj.1 e
theorem Jk {ft:TypeId} {k:SK} {u v:Value} (hk:M5 P ft k=true) (hu:Jj k u=true) (hv:Jj k v=true) (d:Nat) (w:World):(Op.equalIn (d+1) ft u v).run P w= .ok (NI u v) w:=by
 cases k with
 |s=>
  have ht:P.underlying ft=some .string:=G8 hk
  cases u<;>try cases hu
  cases v<;>try cases hv
  rw [run_equalIn_string w d ft _ _ ht,M6];rfl
 |b=>
  have ht:P.underlying ft=some .bool:=G9 hk
  cases u<;>try cases hu
  cases v<;>try cases hv
  rw [run_equalIn_bool' w d ft _ _ ht];rfl
 |i q=>
  obtain ⟨q',ht⟩:∃ q',P.underlying ft=some (.int q'):=Ga hk
  cases u<;>try cases hu
  cases v<;>try cases hv
  simp only [Jj,decide_eq_true_eq] at hu hv
  subst hu;subst hv
  rw [run_equalIn_int w d ft _ _ _ _ ht];rfl
theorem Ci {d:Nat}:∀ (fs:List Field) (ks:List SK) (j:Nat) (us vs:List Value) (U V:Array Value) (w:World),Ch P fs ks j=true->Bc ks us=true->Bc ks vs=true->(∀ m,us[m]? =U[j+m]?)->(∀ m,vs[m]? =V[j+m]?)->
  (Op.eqFields (d+1) U V fs).run P w= .ok (eqVs us vs) w
 |[],[],_,[],[],_,_,w,_,_,_,_,_=>by simp [Op.eqFields,eqVs]
 |f::fs,k::ks,j,u::us,v::vs,U,V,w,h,hu,hv,hU,hV=>by
  simp only [Ch,Bool.and_eq_true,bne_iff_ne,ne_eq,beq_iff_eq] at h
  obtain ⟨h1,h2,h3,h4,h5⟩:=h
  simp only [Bc,Bool.and_eq_true] at hu hv
  have e1:U[j]? =some u:=by have:=hU 0;simpa using this.symm
  have e2:V[j]? =some v:=by have:=hV 0;simpa using this.symm
  have ih:=Ci (d:=d) fs ks (j+1) us vs U V w h5 hu.2 hv.2 (λ m=>by have:=hU (m+1);rw [List.getElem?_cons_succ] at this;rw [this,show j+(m+1)=j+1+m by omega]) (λ m=>by have:=hV (m+1);rw [List.getElem?_cons_succ] at this;rw [this,show j+(m+1)=j+1+m by omega])
  simp only [Op.eqFields,ne_eq,h1,not_false_eq_true,if_true,h2,Sem.run_bind,vQ h3 h4 e1,vQ h3 h4 e2,Result.andThen_ok,Jk h3 hu.1 hv.1,eqVs]
  cases NI u v with
  |true=>simp [ih]
  |false=>simp
theorem Ev.PS {x y:Operand} {t xt:TypeId} {us vs:List Value} {ks:List SK} (hT:vP P t ks=true) (hx:aI L x=some (.agg us.toArray)) (hy:aI L y=some (.agg vs.toArray)) (hu:Bc ks us=true) (hv:Bc ks vs=true):
  Ev P n L w ⟨d,.binOp .neq t x y xt,ty,pos,af,g⟩ (.bool (!eqVs us vs)):= .of λ ρ hρ=>by
 unfold vP at hT
 split at hT
 ·rename_i fs hfs
  simp only [Bool.and_eq_true,Bool.not_eq_true'] at hT
  obtain ⟨h1,h2,h3⟩:=hT
  have hfo:P.fieldsOf t=fs:=by unfold Program.fieldsOf;rw [hfs]
  have he:∀ w,(Op.equalIn 10000 t (.agg us.toArray) (.agg vs.toArray)).run P w= .ok (eqVs us vs) w:=λ w=>by
   rw [show (10000:Nat)=9999+1 from rfl,run_equalIn_agg w 9999 t _ _ (by rw [hfo];exact hfs) h3,hfo]
   exact Ci (d:=9998) fs.toList ks 0 us vs _ _ w h1 hu hv (λ m=>by simp) (λ m=>by simp)
  simp only [execOp,hρ hx,hρ hy,Sem.run_bind,run_eqGuard_agg w .neq t _ _ _ _ h2,Result.andThen_ok,run_neq_struct,he,Sem.run_pure]
 ·cases hT
structure EqE {α:Type} (E:Enc α) (ks:List SK):Prop where
 ok:∀ a,Bc ks (E.enc a)=true
 eq:∀ a b,eqVs (E.enc a) (E.enc b)=true↔a=b
theorem Ev.Nl {α:Type} [DecidableEq α] {E:Enc α} {ks:List SK} (hE:EqE E ks) {x y:Operand} {t xt:TypeId} {a b:α} (hT:vP P t ks=true) (hx:aI L x=some (E.ag a)) (hy:aI L y=some (E.ag b)):
  Ev P n L w ⟨d,.binOp .neq t x y xt,ty,pos,af,g⟩ (.bool (decide (a≠b))):=by
 have h:=Ev.PS (P:=P) (n:=n) (w:=w) (d:=d) (ty:=ty) (pos:=pos) (af:=af) (g:=g) (xt:=xt) hT hx hy (hE.ok a) (hE.ok b)
 have e:(!eqVs (E.enc a) (E.enc b))=decide (a≠b):=by
  by_cases q:a=b
  ·rw [(hE.eq a b).2 q];simp [q]
  ·have:eqVs (E.enc a) (E.enc b)=false:=by
    cases hq:eqVs (E.enc a) (E.enc b) with
    |true=>exact absurd ((hE.eq a b).1 hq) q
    |false=>rfl
   rw [this];simp [q]
 rwa [e] at h
end
instance:DecidableEq Nd:=λ a b=>
 if h:a.nm=b.nm/\a.b=b.b/\a.e=b.e/\a.p=b.p then isTrue (by cases a;cases b;simp only [Nd.mk.injEq];exact h) else isFalse λ e=>h (by subst e;exact ⟨rfl,rfl,rfl,rfl⟩)
theorem M7:EqE aQ [.s,.s]:=⟨λ a=>rfl,λ a b=>by
 obtain ⟨a1,a2⟩:=a;obtain ⟨b1,b2⟩:=b
 by_cases h1:a1=b1<;>by_cases h2:a2=b2<;>simp [aQ,eqVs,NI,h1,h2]⟩
theorem M8:EqE bU [.s,.b]:=⟨λ a=>rfl,λ a b=>by
 obtain ⟨a1,a2⟩:=a;obtain ⟨b1,b2⟩:=b
 by_cases h1:a1=b1<;>by_cases h2:a2=b2<;>simp [bU,eqVs,NI,h1,h2]⟩
theorem M9:EqE br [.s,.i .i64,.i .i64,.i .i64]:=⟨λ a=>rfl,λ a b=>by
 obtain ⟨a1,a2,a3,a4⟩:=a;obtain ⟨b1,b2,b3,b4⟩:=b
 by_cases h1:a1=b1<;>by_cases h2:a2=b2<;>by_cases h3:a3=b3<;>by_cases h4:a4=b4<;>simp [br,eqVs,NI,h1,h2,h3,h4]⟩
end Go.Kw
