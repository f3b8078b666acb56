/-
 KSC:structs of strings,numbers and truths compared. Our own text;it names no program.
-/
import Derived.Test.YtcmldpiicnobnaaGreatDoorKau
import Derived.Test.YtcmldpiicnobnaaGreatDoorM06
import Derived.Test.YtcmldpiicnobnaaGreatDoorM41b
import Derived.Test.YtcmldpiicnobnaaGreatDoorF06v
set_option linter.all false
set_option maxRecDepth 100000
open Go.Proofs.YtcmldpiicnobnaaGreatDoor
open List
namespace Go.Kw
open Go.RowKit
inductive SK where
 |s
 |b
 |i (k:IntKind)
def Gq:SK->Value->Bool
 | .s,.string _=>true
 | .b,.bool _=>true
 | .i k,.int k' _=>decide (k=k')
 |_,_=>false
def xL:List SK->List Value->Bool
 |[],[]=>true
 |k::ks,v::vs=>Gq k v&&xL ks vs
 |_,_=>false
def LU:Value->Value->Bool
 | .string a,.string b=>decide (a=b)
 | .bool a,.bool b=>decide (a=b)
 | .int _ a,.int _ b=>decide (a=b)
 |_,_=>false
def eqVs:List Value->List Value->Bool
 |[],[]=>true
 |a::r,b::s=>cond (LU a b) (eqVs r s) false
 |_,_=>false
def Nl:Option TypeDesc->Bool
 |some .string=>true
 |_=>false
def Nn:Option TypeDesc->Bool
 |some .bool=>true
 |_=>false
def Np:Option TypeDesc->Bool
 |some (.int _)=>true
 |_=>false
def JL(P:Program)(t:TypeId):SK->Bool
 | .s=>Nl (P.underlying t)
 | .b=>Nn (P.underlying t)
 | .i _=>Np (P.underlying t)
def De{o:Option TypeDesc}(h:Nl o=true):o=some .string:=by
 unfold Nl at h;split at h
 ·rfl
 ·cases h
def Df{o:Option TypeDesc}(h:Nn o=true):o=some .bool:=by
 unfold Nn at h;split at h
 ·rfl
 ·cases h
def Dg{o:Option TypeDesc}(h:Np o=true):∃ q,o=some (.int q):=by
 unfold Np at h;split at h
 ·exact⟨_,J⟩
 ·cases h
def yQ(P:Program):List Field->List SK->Nat->Bool
 |[],[],_=>true
 | f :: fs, k :: ks, j => f.name != "_" && (f.offset == j && (JL P f.type k && ((match P.info? f.type with | some i => i.size == 1 | none => false) && yQ P fs ks (j + 1))))
 |_,_,_=>false
def uR(P:Program)(t:TypeId)(ks:List SK):Bool:=
 match P.underlying t with
 |some (.struct fs)=>yQ P fs.toList ks 0&&(!P.eqGuardType P.depth t&& !P.stoodInHeld t)
 |_=>false
section
variable {P:Program} {n:Nat} {L:aA} {w w0:World} {d:Option Nat} {ty:TypeId} {pos:String} {af:Array Edge} {g:Option (Nat×Bool)}
def rN{ft:TypeId}{vs:Array Value}{j:Nat}{v:Value}{k:SK}(hk:JL P ft k=true)(hz:(match P.info? ft with|some i=>i.size==1|none=>false)=true)(hv:vs[j]? =some v)(w:World):(part ft vs j).run P w= .ok v w:=by
 obtain⟨i,hi,hs⟩:∃ i,P.info? ft=some i/\i.size=1:=by
  cases hin:P.info? ft with
  |none=>rw[hin]at hz;cases hz
  |some i=>rw[hin]at hz;exact⟨i,J,by simpa using hz⟩
 have hv2:vs[j]! =v:=by rw[getElem!_def,hv]
 cases k with
 |s=>
  have hu:P.underlying ft=some .string:=De hk;simp[part,isAgg,OH hu,sizeOf,typeInfo,hi,hs,hv]
 |b=>
  have hu:P.underlying ft=some .bool:=Df hk;simp[part,isAgg,OH hu,sizeOf,typeInfo,hi,hs,hv]
 |i q=>
  obtain⟨q',hu⟩:∃ q',P.underlying ft=some (.int q'):=Dg hk;simp[part,isAgg,OH hu,sizeOf,typeInfo,hi,hs,hv]
def JM(a b:ByteArray):(a.toList==b.toList)=decide (a=b):=by
 by_cases h:a=b
 ·subst h;simp
 ·rw[KG h];refine beq_false_of_ne λ e=>h ?_;rw[Qv,Qv]at e;cases a;cases b;simp only[ByteArray.mk.injEq];exact Array.toList_inj.1 e
def Gr{ft:TypeId}{k:SK}{u v:Value}(hk:JL P ft k=true)(hu:Gq k u=true)(hv:Gq k v=true)(d:Nat)(w:World):(Op.equalIn (d+1) ft u v).run P w= .ok (LU u v) w:=by
 cases k with
 |s=>
  have ht:P.underlying ft=some .string:=De hk;cases u<;>try cases hu
  cases v<;>try cases hv
  rw[run_equalIn_string w d ft _ _ ht,JM];rfl
 |b=>
  have ht:P.underlying ft=some .bool:=Df hk;cases u<;>try cases hu
  cases v<;>try cases hv
  rw[run_equalIn_bool' w d ft _ _ ht];rfl
 |i q=>
  obtain⟨q',ht⟩:∃ q',P.underlying ft=some (.int q'):=Dg hk;cases u<;>try cases hu
  cases v<;>try cases hv
  simp only[Gq,PI]at hu hv;subst hu;subst hv;rw[run_equalIn_int w d ft _ _ _ _ ht];rfl
def yR{d:Nat}:∀ (fs:List Field) (ks:List SK) (j:Nat) (us vs:List Value) (U V:Array Value) (w:World),yQ P fs ks j=true->xL ks us=true->xL ks vs=true->(∀ m,us[m]? =U[j+m]?)->(∀ m,vs[m]? =V[j+m]?)->
  (Op.eqFields (d+1) U V fs).run P w= .ok (eqVs us vs) w
 |[],[],_,[],[],_,_,w,_,_,_,_,_=>by simp[Op.eqFields,eqVs]
 |f::fs,k::ks,j,u::us,v::vs,U,V,w,h,hu,hv,hU,hV=>by
  simp only[yQ,OK,bne_iff_ne,ne_eq,Qd]at h;obtain⟨h1,h2,h3,h4,h5⟩:=h;simp only[xL,OK]at hu hv;have e1:U[j]? =some u:=by have:=hU 0;simpa using this.symm
  have e2:V[j]? =some v:=by have:=hV 0;simpa using this.symm
  have ih:=yR (d:=d) fs ks (j+1) us vs U V w h5 hu.2 hv.2 (λ m=>by have:=hU (m+1);rw[QH]at this;rw[this,show j+(m+1)=j+1+m by omega]) (λ m=>by have:=hV (m+1);rw[QH]at this;rw[this,show j+(m+1)=j+1+m by omega]);simp only[Op.eqFields,ne_eq,h1,Se,Qa,h2,ON,rN h3 h4 e1,rN h3 h4 e2,Ox,Gr h3 hu.1 hv.1,eqVs];cases LU u v with
  |true=>simp[ih]
  |false=>simp
def Ev.NI{x y:Operand}{t xt:TypeId}{us vs:List Value}{ks:List SK}(hT:uR P t ks=true)(hx:aH L x=some (.agg us.toArray))(hy:aH L y=some (.agg vs.toArray))(hu:xL ks us=true)(hv:xL ks vs=true):
  Ev P n L w ⟨d,.binOp .neq t x y xt,ty,pos,af,g⟩ (.bool (!eqVs us vs)):=.of λ ρ hρ=>by
 unfold uR at hT;split at hT
 ·rename_i fs hfs
  simp only[OK,R8]at hT;obtain⟨h1,h2,h3⟩:=hT;have hfo:P.fieldsOf t=fs:=by unfold Program.fieldsOf;rw[hfs]
  have he:∀ w,(Op.equalIn 10000 t (.agg us.toArray) (.agg vs.toArray)).run P w= .ok (eqVs us vs) w:=λ w=>by
   rw[show(10000:Nat)=9999+1 from J,run_equalIn_agg w 9999 t _ _ (by rw[hfo];exact hfs) h3,hfo];exact yR (d:=9998) fs.toList ks 0 us vs _ _ w h1 hu hv (λ m=>by simp) (λ m=>by simp)
  simp only[execOp,hρ hx,hρ hy,ON,run_eqGuard_agg w .neq t _ _ _ _ h2,Ox,run_neq_struct,he,OR]
 ·cases hT
structure EqE{α:Type}(E:Enc α)(ks:List SK):Prop where
 ok:∀ a,xL ks (E.enc a)=true
 eq:∀ a b,eqVs (E.enc a) (E.enc b)=true↔a=b
def Ev.L9{α:Type}[DecidableEq α]{E:Enc α}{ks:List SK}(hE:EqE E ks){x y:Operand}{t xt:TypeId}{a b:α}(hT:uR P t ks=true)(hx:aH L x=some (E.ag a))(hy:aH L y=some (E.ag b)):
  Ev P n L w ⟨d,.binOp .neq t x y xt,ty,pos,af,g⟩ (.bool (decide (a≠b))):=by
 have h:=Ev.NI (P:=P) (n:=n) (w:=w) (d:=d) (ty:=ty) (pos:=pos) (af:=af) (g:=g) (xt:=xt) hT hx hy (hE.ok a) (hE.ok b);have e:(!eqVs (E.enc a) (E.enc b))=decide (a≠b):=by
  by_cases q:a=b
  ·rw[(hE.eq a b).2 q];simp[q]
  ·have:eqVs (E.enc a) (E.enc b)=false:=by
    cases hq:eqVs (E.enc a) (E.enc b)with
    |true=>exact absurd ((hE.eq a b).1 hq) q
    |false=>rfl
   rw[this];simp[q]
 rwa[e]at h
end
instance:DecidableEq Nd:=λ a b=>
 if h:a.nm=b.nm/\a.b=b.b/\a.e=b.e/\a.p=b.p then isTrue (by cases a;cases b;simp only[Nd.mk.injEq];exact h)else isFalse λ e=>h (by subst e;exact⟨J,J,J,J⟩)
def Dh:EqE aE [.s,.b]:=⟨λ a=>J,λ a b=>by
 obtain⟨a1,a2⟩:=a;obtain⟨b1,b2⟩:=b;by_cases h1:a1=b1<;>by_cases h2:a2=b2<;>simp[aE,eqVs,LU,h1,h2]⟩
end Go.Kw
namespace Go.Kw
def Di{α β:Type}{l:List α}{m:List β}{k:Nat}{x:α}{y:β}{Q:α->β->Prop}(h:∀ (j:Nat) s t,j<k->l[j]? =some s->m[j]? =some t->Q s t)(hx:l[k]? =some x)(hy:m[k]? =some y)(q:Q x y):∀ (j:Nat) s t,j<k+1->l[j]? =some s->m[j]? =some t->Q s t:=λ j s t hj hs ht=>by
 rcases OI j k with r|r
 ·exact h j s t r hs ht
 ·have e:j=k:=by omega
  subst e;rw[hx]at hs;rw[hy]at ht;cases hs;cases ht;exact q
def Gs{α β γ:Type}{f:α->γ}{g:β->γ}{l:List α}{m:List β}{k:Nat}(hl:l.length=m.length)(h:∀ (j:Nat) s t,j<k->l[j]? =some s->m[j]? =some t->f s=g t)(hk:l.length<=k):l.map f=m.map g:=by
 apply Rn (by simpa using hl);intro i h1 h2;rw[getElem_map,getElem_map];rw[OC]at h1 h2;exact h i _ _ (by omega) (py h1) (py h2)
def Gu{α:Type}{l m:List α}{k:Nat}(hl:l.length=m.length)(h:∀ (j:Nat) s t,j<k->l[j]? =some s->m[j]? =some t->s=t)(hk:l.length<=k):l=m:=by
 have:=Gs (f:=id) (g:=id) hl h hk;simpa using this
def get_eq{α:Type}{l m:List α}{k:Nat}{x y:α}(e:l=m)(hx:l[k]? =some x)(hy:m[k]? =some y):x=y:=by subst e;rw[hx]at hy;exact OG hy
structure Sm(c:Co):Prop where
 at_:c.at_.length<=5000
 tk:c.tk.length<=5000
 tx:c.tx.length<=5000
 rg:c.rg.length<=5000
 nd:c.nd.length<=5000
 hd:c.hd.length<=5000
 rl:c.rl.length<=5000
 tr:∀ t∈c.tk,t.ns.length<=5000
 xr:∀ t∈c.tx,t.ps.length<=5000
 rr:∀ t∈c.rg,t.ps.length<=5000
def OkC.sm{n:Nat}{c:Co}(h:OkC n c)(hn:n<=80):Sm c:=by
 have h1:=h.ntk;have h2:=h.ntx;have h3:=h.nrg;have h4:=h.nnd;have h5:=h.at_.2;have h6:=h.hZ.1;have h7:c.hd.length<=c.tk.length:=by
  rcases PB c.hd.length with q|q
  ·omega
  ·have:=(h.hZ.2 q).len.1;omega
 exact⟨by omega,by omega,by omega,by omega,by omega,by omega,by omega,λ t ht=>by have:=(h.tk t ht).1;omega,λ t ht=>by have:=(h.tx.nm t ht).2.1.1;omega,λ t ht=>by have:=(h.rg.el t ht).2.2.1;omega⟩
end Go.Kw
namespace Go.Proofs.YtcmldpiicnobnaaGreatDoor
open Go.RowKit Go.Kw
def yS:uR Tryz.prog 69 [.s,.b]=true:=by kernel_rfl
def Bl(v u:Value)(l m:List (ByteArray×Bool))(w:World)(hv:RdL w v aE l)(hu:RdL w u aE m)(hl:l.length<=5000):
  CallsV Tryz.prog 157 [v,u] w λ r w'=>r= .bool (decide (l=m))/\Sat w [] w':=by
 refine bQ Tryz.func157 J λ hs0=>.Z J<|.seq<|.h<|.ln 1 (hv.ext hs0.ext) J<|.ln 1 (hu.ext hs0.ext) J<|.Z J<|.a8 J (λ c_1=>?_) λ c_1=>?_
 ·refine .Z J<|.aC J J ?_;exact⟨If Value.bool (KG λ e=>c_1 (If List.length e)).symm,hs0.pk []⟩
 refine .skip<|.seq<|.h<|.ln 1 (hv.ext hs0.ext) J<|.Z J<|.block<|.lq [0,1,12] J (α:=Nat) (λ k=>[(13,(.int .i64 k))]) (λ k w'=>Sat w [] w'/\(∀ (j:Nat) s t,j<k->l[j]? =some s->m[j]? =some t->s=t)) (λ k=>l.length-k) 0 ⟨hs0,λ j s t h=>absurd h (by omega)⟩ ?_;rintro k w_1 ⟨s_2,hk⟩;refine .Z J<|.seq<|.a8 J (λ c_2=>?_) λ c_2=>?_
 ·refine .skip<|.seq<|.block<|.seq ?_;obtain⟨x,hx⟩:∃ x,(l)[k]? =some x:=⟨_,py c_2⟩;obtain⟨y,hy⟩:∃ y,(m)[k]? =some y:=⟨_,py (by omega)⟩;refine .U J<|.seq<|.dk [] s_2 J (pl [0,1,2,3,4,5,6,7,8] .fin) λ s_3 S_1=>.ix 2 S_1 (hv.ext ·.ext) J<|.lg 0 S_1 (hv.ext ·.ext) hx J<|.ix 2 S_1 (hu.ext ·.ext) J<|.lg 0 S_1 (hu.ext ·.ext) hy J<|.e J (λ _ q=>.L9 (a:=x) (b:=y) Dh yS J J) S_1<|.fin<|.a8 J (λ c_3=>?_) λ c_3=>?_
  ·refine .Z J<|.aC J J ?_;exact⟨If Value.bool (KG λ e=>c_3 (get_eq e hx hy)).symm,s_3.pk []⟩
  refine .skip<|.U J ?_;exact ba (k+1) ⟨s_3,Di hk hx hy (Po.1 c_3)⟩
 refine .ak<|.Z J<|.aC J J ?_;exact⟨If Value.bool (OL (Gu (by omega) hk (by omega))).symm,s_2.pk []⟩
end Go.Proofs.YtcmldpiicnobnaaGreatDoor
namespace Go.Kw
def rO(n:Int)(x:Iv):Iv:={x with b:=x.b+n}
def Iw(n:Int)(x:Iv):Iv:={x with e:=x.e+n}
def rP(n:Int)(x:Nd):Nd:={x with b:=x.b+n}
def Dj(n:Int)(x:Nd):Nd:={x with e:=x.e+n}
def Nq(m:Int)(x:Nd):Nd:={x with p:=x.p+m}
def th{α:Type}{l r:List α}{f:α->α}{j:Nat}:(l++((r.take j).map f++r.drop j))[l.length+j]? =r[j]? :=by
 rw[OU (by omega),PH];rcases OI j r.length with h|h
 ·rw[OU (by simp;omega),Q0];congr 1;simp;omega
 ·rw[P8 h,PF,OA h,OX (by simpa using h),OX h]
def jK{α:Type}{l r:List α}{f:α->α}{j:Nat}:(l++((r.take j).map f++r.drop j)).length=l.length+r.length:=by
 simp only[AT,OC,M2,OJ];omega
def oC{α:Type}{l r:List α}{f:α->α}{j:Nat}{x:α}(hx:r[j]? =some x):(l++((r.take j).map f++r.drop j)).set (l.length+j) (f x)=l++((r.take (j+1)).map f++r.drop (j+1)):=by
 obtain⟨hj,rfl⟩:=sp.1 hx;rw[Q2 _ _ (by omega),PH,Q2 _ _ (by simp;omega)];have e:j-((r.take j).map f).length=0:=by simp;omega
 rw[e,OZ hj,set_cons_zero,Ra hj,Pw,No];rfl
def ti{α:Type}{l r:List α}{f:α->α}{j:Nat}(h:r.length<=j):l++((r.take j).map f++r.drop j)=l++r.map f:=by
 rw[OA h,P8 h,PF]
def Dl{P:SV->List ByteArray->Prop}{l r:List Tk}(h1:∀ t∈l,P t.sv t.ns)(h2:∀ t∈r,P t.sv t.ns):∀ t∈l++r,P t.sv t.ns:=λ t ht=>(OM.1 ht).elim (h1 t) (h2 t)
def tj{P:SV->List Pr->Prop}{l r:List Iv}{n:Int}(h1:∀ t∈l,P t.sv t.ps)(h2:∀ t∈r,P t.sv t.ps):∀ t∈l++r.map (dA n),P t.sv t.ps:=λ t ht=>(eu ht).elim (h1 t) λ⟨y,hy,e⟩=>by rw[e];exact h2 y hy
def qU{α β:Type}{r:List α}{f:α->β}{j:Nat}{x:α}(hx:r[j]? =some x):(r.take (j+1)).map f=(r.take j).map f++[f x]:=by
 obtain⟨hj,rfl⟩:=sp.1 hx;rw[Ra hj,Pw];rfl
def dh{n:Nat}{c:Co}(h:OkC n c):(eE c).length=c.tk.length/\(fD c).length=c.tk.length:=h.hw.len
def JN(n k:Nat)(l:List Int)(hl:l.length=n)(h:∀ (j:Nat),j<k->l[j]? =some (-1))(hk:n<=k):l=List.replicate n (-1):=by
 apply Rn (by simpa using hl);intro i h1 h2;have:=h i (by omega);rw[py h1]at this;rw[getElem_replicate];exact OG this
def fZ{α:Type}{l:List α}{k:Nat}{x:α}(hx:l[k]? =some x):l.take (k+1)=l.take k++[x]:=by
 obtain⟨hj,rfl⟩:=sp.1 hx;exact Ra hj
def yT{α:Type}{l:List α}{j:Nat}{p:Prop}[Decidable p][Inhabited α](h:p->j<l.length):∃ y,p->l[j]? =some y:=by
 by_cases q:p
 ·exact⟨l[j]'(h q),λ _=>py _⟩
 ·exact⟨default,λ r=>absurd r q⟩
instance:Inhabited Iv:=⟨⟨ByteArray.empty,0,0,⟨none,0,0⟩,[]⟩⟩
def JO{N:List Nd}{k:Nat}{n m:Int}{x:Nd}(h:¬ 0<=x.p):(N.set k (rP n x)).set k (Dj n (rP n x))=N.set k (qZ n m x):=by
 rw[R0];unfold qZ;rw[OB h];rfl
def JP{N:List Nd}{k:Nat}{n m:Int}{x:Nd}(h:0<=x.p):((N.set k (rP n x)).set k (Dj n (rP n x))).set k (Nq m (Dj n (rP n x)))=N.set k (qZ n m x):=by
 rw[R0,R0];unfold qZ;rw[Ow h];rfl
def LV{n:Nat}{c:Co}(h:OkC n c){i:Nat}{x:Int}(hx:(eE c)[i]? =some x):x<(c.tk.length:Int)+1/\-1<=x:=by
 rcases h.hw.el i x hx with e|⟨t,ht,h1,h2,h3,h4⟩
 ·omega
 ·have:=(h.tx.nm t ht).2.2;omega
