/-
 KSC:structs of strings,numbers and truths compared. Our own text;it names no program.
-/
import Derived.Test.YtcgidfgdbhihbaaGreatDoorKc
import Derived.Test.YtcgidfgdbhihbaaGreatDoorM06
set_option linter.all false
open Go.Proofs.YtcgidfgdbhihbaaGreatDoor
open List
namespace Go.Kw
open Go.RowKit
inductive SK where
 |s
 |b
 |i (k:IntKind)
def O6:SK->Value->Bool
 | .s,.string _=>true
 | .b,.bool _=>true
 | .i k,.int k' _=>decide (k=k')
 |_,_=>false
def D3:List SK->List Value->Bool
 |[],[]=>true
 |k::ks,v::vs=>O6 k v&&D3 ks vs
 |_,_=>false
def Ug:Value->Value->Bool
 | .string a,.string b=>decide (a=b)
 | .bool a,.bool b=>decide (a=b)
 | .int _ a,.int _ b=>decide (a=b)
 |_,_=>false
def eqVs:List Value->List Value->Bool
 |[],[]=>true
 |a::r,b::s=>cond (Ug a b) (eqVs r s) false
 |_,_=>false
def Wt:Option TypeDesc->Bool
 |some .string=>true
 |_=>false
def Wu:Option TypeDesc->Bool
 |some .bool=>true
 |_=>false
def Wv:Option TypeDesc->Bool
 |some (.int _)=>true
 |_=>false
def RF(P:Program)(t:TypeId):SK->Bool
 | .s=>Wt (P.underlying t)
 | .b=>Wu (P.underlying t)
 | .i _=>Wv (P.underlying t)
def Jy{o:Option TypeDesc}(h:Wt o=true):o=some .string:=by
 unfold Wt at h;split at h
 ·rfl
 ·cases h
def Jz{o:Option TypeDesc}(h:Wu o=true):o=some .bool:=by
 unfold Wu at h;split at h
 ·rfl
 ·cases h
def JA{o:Option TypeDesc}(h:Wv o=true):∃ q,o=some (.int q):=by
 unfold Wv at h;split at h
 ·exact⟨_,Y⟩
 ·cases h
def Em(P:Program):List Field->List SK->Nat->Bool
 |[],[],_=>true
 | f :: fs, k :: ks, j => f.name != "_" && (f.offset == j && (RF P f.type k && ((match P.info? f.type with | some i => i.size == 1 | none => false) && Em P fs ks (j + 1))))
 |_,_,_=>false
def rH(P:Program)(t:TypeId)(ks:List SK):Bool:=
 match P.underlying t with
 |some (.struct fs)=>Em P fs.toList ks 0&&(!P.eqGuardType P.depth t&& !P.stoodInHeld t)
 |_=>false
section
variable {P:Program} {n:Nat} {L:aA} {w w0:World} {d:Option Nat} {ty:TypeId} {pos:String} {af:Array Edge} {g:Option (Nat×Bool)}
def xb{t:TypeId}{vs:Array Value}{j:Nat}{v:Value}{k:SK}(o:RF P t k=true)(g:(match P.info? t with|some i=>i.size==1|none=>false)=true)(d:vs[j]? =some v)(w:World):(part t vs j).run P w= .ok v w:=by
 obtain⟨i,l,p⟩:∃ i,P.info? t=some i/\i.size=1:=by
  cases H:P.info? t with
  |none=>rw[H]at g;cases g
  |some i=>rw[H]at g;exact⟨i,Y,a0N⟩
 have r:vs[j]! =v:=by rw[getElem!_def,d]
 cases k with
 |s=>
  have u:P.underlying t=some .string:=Jy o;simp[part,isAgg,Xy u,sizeOf,typeInfo,l,p,d]
 |b=>
  have u:P.underlying t=some .bool:=Jz o;simp[part,isAgg,Xy u,sizeOf,typeInfo,l,p,d]
 |i q=>
  obtain⟨Q,u⟩:∃ Q,P.underlying t=some (.int Q):=JA o;simp[part,isAgg,Xy u,sizeOf,typeInfo,l,p,d]
def RG(a b:ByteArray):(a.toList==b.toList)=decide (a=b):=by
 by_cases h:a=b
 ·subst h;simp
 ·rw[IN h];refine beq_false_of_ne λ e=>h ?_;rw[ZJ,ZJ]at e;cases a;cases b;simp only[ByteArray.mk.injEq];exact Array.toList_inj.1 e
def O7{t:TypeId}{k:SK}{u v:Value}(l:RF P t k=true)(g:O6 k u=true)(j:O6 k v=true)(d:Nat)(w:World):(Op.equalIn (d+1) t u v).run P w= .ok (Ug u v) w:=by
 cases k with
 |s=>
  have H:P.underlying t=some .string:=Jy l;cases u<;>try cases g
  cases v<;>try cases j
  rw[run_equalIn_string w d t _ _ H,RG];rfl
 |b=>
  have H:P.underlying t=some .bool:=Jz l;cases u<;>try cases g
  cases v<;>try cases j
  rw[run_equalIn_bool' w d t _ _ H];rfl
 |i q=>
  obtain⟨Q,H⟩:∃ Q,P.underlying t=some (.int Q):=JA l;cases u<;>try cases g
  cases v<;>try cases j
  simp only[O6,XS]at g j;subst g;subst j;rw[run_equalIn_int w d t _ _ _ _ H];rfl
def yq{d:Nat}:∀ (g:List Field) (ks:List SK) (j:Nat) (us vs:List Value) (U V:Array Value) (w:World),Em P g ks j=true->D3 ks us=true->D3 ks vs=true->(∀ m,us[m]? =U[j+m]?)->(∀ m,vs[m]? =V[j+m]?)->
  (Op.eqFields (d+1) U V g).run P w= .ok (eqVs us vs) w
 |[],[],_,[],[],_,_,w,_,_,_,_,_=>by simp[Op.eqFields,eqVs]
 |f::g,k::ks,j,u::us,v::vs,U,V,w,h,hu,hv,hU,hV=>by
  simp only[Em,Xz,bne_iff_ne,ne_eq,Zo]at h;obtain⟨o,p,H,i,q⟩:=h;simp only[D3,Xz]at hu hv;have E:U[j]? =some u:=by have:=hU 0;simpa using this.symm
  have l:V[j]? =some v:=by have:=hV 0;simpa using this.symm
  have r:=yq (d:=d) g ks (j+1) us vs U V w q hu.2 hv.2 (λ m=>by have:=hU (m+1);rw[ZX]at this;rw[this,show j+(m+1)=j+1+m by omega]) (λ m=>by have:=hV (m+1);rw[ZX]at this;rw[this,show j+(m+1)=j+1+m by omega]);simp only[Op.eqFields,ne_eq,o,not_false_eq_true,Z7,p,XC,xb H i E,xb H i l,Xw,O7 H hu.1 hv.1,eqVs];cases Ug u v with
  |true=>simp[r]
  |false=>simp
def Ev.WL{x y:Operand}{t xt:TypeId}{us vs:List Value}{ks:List SK}(T:rH P t ks=true)(p:aM L x=some (.agg us.toArray))(q:aM L y=some (.agg vs.toArray))(u:D3 ks us=true)(l:D3 ks vs=true):
  Ev P n L w ⟨d,.binOp .neq t x y xt,ty,pos,af,g⟩ (.bool (!eqVs us vs)):=.of λ ρ H=>by
 unfold rH at T;split at T
 ·rename_i fs hfs
  simp only[Xz,a1d]at T;obtain⟨i,j,k⟩:=T;have o:P.fieldsOf t=fs:=by unfold Program.fieldsOf;rw[hfs]
  have he:∀ w,(Op.equalIn 10000 t (.agg us.toArray) (.agg vs.toArray)).run P w= .ok (eqVs us vs) w:=λ w=>by
   rw[show(10000:Nat)=9999+1 from Y,run_equalIn_agg w 9999 t _ _ (by rw[o];exact hfs) k,o];exact yq (d:=9998) fs.toList ks 0 us vs _ _ w i u l (λ m=>by simp) (λ m=>by simp)
  simp only[execOp,H p,H q,XC,run_eqGuard_agg w .neq t _ _ _ _ j,Xw,run_neq_struct,he,XG]
 ·cases T
structure EqE{α:Type}(E:Enc α)(ks:List SK):Prop where
 ok:∀ a,D3 ks (E.enc a)=true
 eq:∀ a b,eqVs (E.enc a) (E.enc b)=true↔a=b
def Ev.U0{α:Type}[DecidableEq α]{E:Enc α}{ks:List SK}(H:EqE E ks){x y:Operand}{t xt:TypeId}{a b:α}(T:rH P t ks=true)(j:aM L x=some (E.ag a))(k:aM L y=some (E.ag b)):
  Ev P n L w ⟨d,.binOp .neq t x y xt,ty,pos,af,g⟩ (.bool (decide (a≠b))):=by
 have h:=Ev.WL (P:=P) (n:=n) (w:=w) (d:=d) (ty:=ty) (pos:=pos) (af:=af) (g:=g) (xt:=xt) T j k (H.ok a) (H.ok b);have e:(!eqVs (E.enc a) (E.enc b))=decide (a≠b):=by
  by_cases q:a=b
  ·rw[(H.eq a b).2 q];simp[q]
  ·have:eqVs (E.enc a) (E.enc b)=false:=by
    cases i:eqVs (E.enc a) (E.enc b)with
    |true=>exact absurd ((H.eq a b).1 i) q
    |false=>rfl
   rw[this];simp[q]
 rwa[e]at h
def Ev.WN{α:Type}[DecidableEq α]{E:Enc α}{ks:List SK}(H:EqE E ks){x y:Operand}{t xt:TypeId}{a b:α}(T:rH P t ks=true)(p:aM L x=some (E.ag a))(q:aM L y=some (E.ag b)):
  Ev P n L w ⟨d,.binOp .eql t x y xt,ty,pos,af,g⟩ (.bool (decide (a=b))):=.of λ ρ i=>by
 have e:eqVs (E.enc a) (E.enc b)=decide (a=b):=by rw[a0t,H.eq,XS]
 unfold rH at T;split at T
 ·rename_i fs hfs
  simp only[Xz,a1d]at T;obtain⟨j,k,l⟩:=T;have o:P.fieldsOf t=fs:=by unfold Program.fieldsOf;rw[hfs]
  have he:∀ w,(Op.equalIn 10000 t (E.ag a) (E.ag b)).run P w= .ok (eqVs (E.enc a) (E.enc b)) w:=λ w=>by
   rw[show(10000:Nat)=9999+1 from Y];unfold Enc.ag;rw[run_equalIn_agg w 9999 t _ _ (by rw[o];exact hfs) l,o];exact yq (d:=9998) fs.toList ks 0 _ _ _ _ w j (H.ok a) (H.ok b) (λ m=>by simp) (λ m=>by simp)
  simp only[execOp,i p,i q,XC];unfold Enc.ag at he⊢;simp only[run_eqGuard_agg w .eql t _ _ _ _ k,Xw,run_eql_struct,he,XG,e]
 ·cases T
end
instance:DecidableEq Nd:=λ a b=>
 if h:a.nm=b.nm/\a.b=b.b/\a.e=b.e/\a.p=b.p then isTrue (by cases a;cases b;simp only[Nd.mk.injEq];exact h)else isFalse λ e=>h (by subst e;exact⟨Y,Y,Y,Y⟩)
def JB:EqE aV [.s,.s]:=⟨λ a=>Y,λ a b=>by
 obtain⟨A,d⟩:=a;obtain⟨g,i⟩:=b;by_cases H:A=g<;>by_cases j:d=i<;>simp[aV,eqVs,Ug,H,j]⟩
def RH:EqE cj [.s,.b]:=⟨λ a=>Y,λ a b=>by
 obtain⟨A,d⟩:=a;obtain⟨g,i⟩:=b;by_cases H:A=g<;>by_cases j:d=i<;>simp[cj,eqVs,Ug,H,j]⟩
def RJ:EqE bT [.s,.i .i64,.i .i64,.i .i64]:=⟨λ a=>Y,λ a b=>by
 obtain⟨A,d,g,j⟩:=a;obtain⟨k,l,o,p⟩:=b;by_cases H:A=k<;>by_cases q:d=l<;>by_cases r:g=o<;>by_cases t:j=p<;>simp[bT,eqVs,Ug,H,q,r,t]⟩
def RP.DP{P:Program}{n:Nat}{ops:List Oper}{K:aA->World->Prop}{L:aA}{w:World}{S:World->Prop}{SS:List (World->Prop)}{i j k:Nat}{o d ok:Oper}{p q r:Plan}(h:(eK n ops i,eK n ops j,eK n ops k)=(some o,some d,some ok))
  (h1:OpE P n L w o λ v W=>∃ T:World->Prop,(∀ u,T u->S u)/\T W/\RP P n ops (T::SS) p K (putK o.dst v L) W) (h2:OpE P n L w d λ v W=>∃ T:World->Prop,(∀ u,T u->S u)/\T W/\RP P n ops (T::SS) q K (putK d.dst v L) W) (g:OpE P n L w ok λ v W=>∃ T:World->Prop,(∀ u,T u->S u)/\T W/\RP P n ops (T::SS) r K (putK ok.dst v L) W):RP P n ops (S::SS) (.three i j k p q r) K L w:=by
 simp only[XO]at h;obtain⟨a,b,c⟩:=h;have a:=cQ a;have b:=cQ b;have c:=cQ c;exact λ _ H=>⟨kS a.1 (dN a.2) (dO a.2) h1 H,kS b.1 (dN b.2) (dO b.2) h2 H,kS c.1 (dN c.2) (dO c.2) g H⟩
def RL(P:Program)(t:Nat):Bool:=match P.info? t with
 |some i=>Nat.beq i.size 1
 |none=>false
def Hb{P:Program}{t:Nat}(h:RL P t=true):(P.info? t).map (·.size)=some 1:=by
 unfold RL at h;split at h
 ·rename_i i hi;rw[hi];simp[Yw h]
 ·cases h
def RM(P:Program)(t:Nat)(k:IntKind):Bool:=match P.underlying t with
 |some (.int k')=>decide (k'=k)
 |_=>false
def JC{P:Program}{t:Nat}{k:IntKind}(h:RM P t k=true):P.underlying t=some (.int k):=by
 unfold RM at h;split at h
 ·rename_i k' hu;have:=XR h;subst this;exact hu
 ·cases h
def Az(P:Program)(T:Nat):Nat->List Nat->Bool
 |_,[]=>true
 |i,o::r=>kT P T i o&&Az P T (i+1) r
def JD(P:Program):List (Nat×Nat×Nat×Value×Nat)->Prop
 |[]=>True
 |(t,e,s,z,b)::r=>SlTy P t e s z b/\JD P r
def qJ{P:Program}{t e s b:Nat}{z:Value}:∀ {l:List (Nat×Nat×Nat×Value×Nat)},JD P l->(t,e,s,z,b)∈l->SlTy P t e s z b
 |[],_,h=>by cases h
 |(_,_,_,_,_)::r,hl,h=>by
  rcases Xr.1 h with h|h
  ·cases h;exact hl.1
  ·exact qJ hl.2 h
def JE(P:Program):List (Nat×Value)->Prop
 |[]=>True
 |(t,z)::r=>(P.info? t).map (·.zero)=some (some z)/\JE P r
def xd{P:Program}{t:Nat}{z:Value}:∀ {l:List (Nat×Value)},JE P l->(t,z)∈l->(P.info? t).map (·.zero)=some (some z)
 |[],_,h=>by cases h
 |(_,_)::r,hl,h=>by
  rcases Xr.1 h with h|h
  ·cases h;exact hl.1
  ·exact xd hl.2 h
class Tb(P:Program) where
 fl:List (Nat×List Nat)
 fok:fl.all (λ e=>Az P e.1 0 e.2)=true
 it:List (Nat×IntKind)
 iok:it.all (λ e=>RM P e.1 e.2)=true
 sc:List Nat
 sok:sc.all (cX P)=true
 ook:sc.all (RL P)=true
 ag:List (Nat×Nat)
 gok:ag.all (λ e=>dF P e.1 e.2)=true
 sl:List (Nat×Nat×Nat×Value×Nat)
 lok:JD P sl
 zr:List (Nat×Value)
 zok:JE P zr
class Ent(P:Program)(f:FuncId):Prop where
 h:Enters P f
def ep{α:Type}:List (Nat×α)->Nat->Option α
 |[],_=>none
 |(t,a)::r,T=>cond (Nat.beq t T) (some a) (ep r T)
def eJ{α:Type}{T:Nat}{a:α}:∀ {l:List (Nat×α)},ep l T=some a->(T,a)∈l
 |[],h=>by cases h
 |(t,b)::r,h=>by
  simp only[ep]at h;cases H:Nat.beq t T with
  |true=>rw[H]at h;cases h;have:=Yw H;subst this;exact Yp
  |false=>rw[H]at h;exact Ya _ (eJ h)
def xe{P:Program}{T:Nat}:∀ {l:List Nat} {i f o:Nat},Az P T i l=true->l[f]? =some o->kT P T (i+f) o=true
 |[],_,_,_,_,h=>by cases h
 |a::r,i,0,o,hl,h=>by simp only[Az,Xz]at hl;simp at h;subst h;exact hl.1
 |a::r,i,f+1,o,hl,h=>by
  simp only[Az,Xz]at hl;have:=xe hl.2 (f:=f) ra;rwa[show i+(f+1)=i+1+f by omega]
section
variable {P:Program} [Tb P]
theorem Tb.PV{T f o:Nat}{l:List Nat}(h:ep (Tb.fl P) T=some l)(H:l[f]? =some o):kT P T f o=true:=by
 have:=Y6.1 (Tb.fok (P:=P)) _ (eJ h);have:=xe this H;rwa[XU]at this
def Tb.int{t:Nat}{k:IntKind}(h:ep (Tb.it P) t=some k):P.underlying t=some (.int k):=
 JC (Y6.1 (Tb.iok (P:=P)) _ (eJ h))
end
def nV(L:aA):Operand->Option (IntKind×Nat)
 | .const (.int k (.ofNat b))=>some (k,@OfNat.ofNat Nat b (instOfNatNat b))
 | .tmp t=>match look L t with
  |some (.int k (.ofNat b))=>some (k,b)
  |_=>none
 |_=>none
def AA{L:aA}{x:Operand}{k:IntKind}{a:Nat}(h:nV L x=some (k,a)):aM L x=some (.int k (a:Int)):=by
 unfold nV at h;split at h
 ·cases h;rfl
 ·rename_i t
  split at h
  ·rename_i k' b hl;cases h;exact hl
  ·cases h
 ·cases h
def Qe(b:Nat):Option Nat:=ep [(127,7),(1,1),(255,8),(3,2),(7,3),(15,4),(31,5),(63,6)] b
def JF{b m:Nat}(h:Qe b=some m):b=2^m-1:=by
 have:=eJ h;simp only[Xr,XO,Xq,XA]at this;rcases this with⟨rfl,rfl⟩|⟨rfl,rfl⟩|⟨rfl,rfl⟩|⟨rfl,rfl⟩|⟨rfl,rfl⟩|⟨rfl,rfl⟩|⟨rfl,rfl⟩|⟨rfl,rfl⟩<;>rfl
def binC(k:IntKind)(a:Nat)(K:IntKind)(b:Nat):BinOp->Option (Value×List Prop)
 | .add=>match k with
  | .i64=>some (.int .i64 ((a+b:Nat):Int),[K= .i64,a+b<=9223372036854775807])
  |_=>none
 | .sub=>match k with
  | .i64=>some (.int .i64 ((a-b:Nat):Int),[K= .i64,b<=a,a<=9223372036854775807])
  |_=>none
 | .mul=>match k with
  | .i64=>some (.int .i64 ((a*b:Nat):Int),[K= .i64,a*b<=9223372036854775807])
  |_=>none
 | .lss=>some (.bool (decide (a<b)),[K=k])
 | .leq=>some (.bool (decide (a<=b)),[K=k])
 | .gtr=>some (.bool (decide (b<a)),[K=k])
 | .geq=>some (.bool (decide (b<=a)),[K=k])
 | .eql=>some (.bool (decide (a=b)),[K=k])
 | .neq=>some (.bool (decide (a≠b)),[K=k])
 | .shr=>some (.int k ((a/2^b:Nat):Int),[a<2^k.bits])
 | .shl=>some (.int k ((a*2^b%2^k.bits:Nat):Int),[k.signed=false,b<=k.bits])
 | .or=>some (.int k ((a|||b:Nat):Int),[K=k,k.signed=false,a<2^k.bits,b<2^k.bits])
 | .and=>match Qe b with
  |some m=>some (.int k ((a%2^m:Nat):Int),[K=k,k.signed=false,a<2^k.bits,b<2^k.bits])
  |none=>none
 |_=>none
def All:List Prop->Prop
 |[]=>True
 |p::r=>p/\All r
theorem All.app:∀ {a b:List Prop},All (a++b)->All a/\All b
 |[],_,h=>⟨trivial,h⟩
 |_::_,_,h=>⟨⟨h.1,(All.app h.2).1⟩,(All.app h.2).2⟩
def Hc(P:Program)[Tb P](L:aA):Op->Option (Value×List Prop)
 | .move x=>match x with
  | .const (.int k (.ofNat b))=>some (.int k ((@OfNat.ofNat Nat b (instOfNatNat b):Nat):Int),[])
  |x=>(aM L x).map λ v=>(v,[])
 | .assign x=>match x with
  | .const (.int k (.ofNat b))=>some (.int k ((@OfNat.ofNat Nat b (instOfNatNat b):Nat):Int),[])
  |x=>(aM L x).map λ v=>(v,[])
 | .extract x i=>match aM L x with
  |some (.tuple vs)=>(vs[i]?).map λ v=>(v,[])
  |_=>none
 | .nilCheck x=>match aM L x with
  |some (.pointer (some p))=>some (.pointer (some p),[])
  |_=>none
 | .fieldAddr T x f=>match aM L x with
  |some (.pointer (some ⟨b,o,none⟩))=>match ep (Tb.fl P) T with
   |some l=>(match l[f]? with
    |some off=>cond (Nat.beq o 0) (some (.pointer (some ⟨b,off,none⟩),[])) (some (.pointer (some ⟨b,o+off,none⟩),[]))
    |none=>none)
   |none=>none
  |_=>none
 | .convert s t x=>match nV L x with
  |some (_,a)=>match ep (Tb.it P) s with
   |some _=>match ep (Tb.it P) t with
    |some k=>cond k.signed (match k with
     | .i64=>some (.int .i64 ((a:Nat):Int),[a<2^63])
     |_=>none) (some (.int k ((a:Nat):Int),[a<2^k.bits]))
    |none=>none
   |none=>none
  |none=>none
 | .pick c x y=>match aM L c with
  |some (.bool true)=>(aM L x).map λ v=>(v,[])
  |some (.bool false)=>(aM L y).map λ v=>(v,[])
  |_=>none
 | .unOp op _ x=>match op with
  | .not=>match aM L x with
   |some (.bool true)=>some (.bool false,[])
   |some (.bool false)=>some (.bool true,[])
   |_=>none
  |_=>none
 | .binOp op _ x y _=>match nV L x with
  |some (k,a)=>match nV L y with
   |some (k',b)=>binC k a k' b op
   |none=>none
  |none=>none
 |_=>none
section
variable {P:Program} [Tb P] {n:Nat} {L:aA} {w:World} {d:Option Nat} {ty:TypeId} {pos:String} {af:Array Edge} {g:Option (Nat×Bool)}
theorem Ev.binC{op:BinOp}{x y:Operand}{xt yt:TypeId}{k K:IntKind}{a b:Nat}{v:Value}{C:List Prop}(H:nV L x=some (k,a))(i:nV L y=some (K,b))(h:binC k a K b op=some (v,C))(j:All C):Ev P n L w ⟨d,.binOp op xt x y yt,ty,pos,af,g⟩ v:=by
 have H:=AA H;have i:=AA i;cases op<;>simp only[Kw.binC]at h<;>try (cases h;done)
 case add=>split at h<;>cases h;obtain⟨rfl,l,_⟩:=j;exact .Me H i l
 case sub=>split at h<;>cases h;obtain⟨rfl,l,o,_⟩:=j;exact .PQ H i l o
 case mul=>split at h<;>cases h;obtain⟨rfl,l,_⟩:=j;exact .TU H i l
 case lss=>cases h;obtain⟨rfl,_⟩:=j;exact .WU H i
 case leq=>cases h;obtain⟨rfl,_⟩:=j;exact .WW H i
 case gtr=>cases h;obtain⟨rfl,_⟩:=j;exact .WK H i
 case geq=>cases h;obtain⟨rfl,_⟩:=j;exact .W6 H i
 case eql=>cases h;obtain⟨rfl,_⟩:=j;exact .W1 H i
 case neq=>cases h;obtain⟨rfl,_⟩:=j;exact .VQ H i
 case shr=>cases h;exact .Q0 H i j.1
 case shl=>cases h;exact .TP H i j.1 j.2.1
 case or=>cases h;obtain⟨rfl,l,o,p,_⟩:=j;exact .Xe H i l o p
 case and=>
  split at h
  ·rename_i m hm;cases h;obtain⟨rfl,l,o,p,_⟩:=j;exact .MF m H i l (JF hm) o p
  ·cases h
def AB{x:Operand}{v:Value}{C:List Prop}(h:Hc P L (.move x)=some (v,C)):aM L x=some v:=by
 simp only[Hc]at h;split at h
 ·cases h;rfl
 ·cases H:aM L x with
  |none=>simp[H]at h
  |some u=>simp[H]at h;rw[h.1]
def Ev.C{op:Op}{v:Value}{C:List Prop}(h:Hc P L op=some (v,C))(r:All C):Ev P n L w ⟨d,op,ty,pos,af,g⟩ v:=by
 cases op<;>try (cases h;done)
 case move x=>exact .move (AB h)
 case assign x=>exact .assign (AB (P:=P) h)
 case extract x i=>
  simp only[Hc]at h;split at h
  ·rename_i vs H
   cases j:vs[i]? with
   |none=>simp[j]at h
   |some u=>simp[j]at h;obtain⟨rfl,_⟩:=h;exact .extract H j
  ·cases h
 case nilCheck x=>
  simp only[Hc]at h;split at h
  ·rename_i p H;cases h;exact .nilCheck H
  ·cases h
 case fieldAddr T x f=>
  simp only[Hc]at h;split at h
  ·rename_i b o H
   split at h
   ·rename_i l hl
    cases q:l[f]? with
    |none=>simp[q]at h
    |some off=>
     simp only[q]at h;cases A:Nat.beq o 0 with
     |true=>rw[A]at h;cases h;have:=Yw A;subst this;exact .fieldAddr (Tb.PV hl q) H bw
     |false=>rw[A]at h;cases h;exact .fieldAddr (Tb.PV hl q) H Y
   ·cases h
  ·cases h
 case convert s t x=>
  simp only[Hc]at h;split at h
  ·rename_i k0 a H
   split at h
   ·rename_i ks hs
    split at h
    ·rename_i k ht
     have H:=AA H;have E:(P.underlying s).isSome=true:=by rw[Tb.int hs];rfl
     cases D:k.signed with
     |true=>
      rw[D]at h;simp only[a0b]at h;split at h<;>cases h;exact .FL E (Tb.int ht) H (tV r.1)
     |false=>rw[D]at h;cases h;exact .FL E (Tb.int ht) H (qK D r.1)
    ·cases h
   ·cases h
  ·cases h
 case pick c x y=>
  simp only[Hc]at h;split at h
  ·rename_i hc
   cases j:aM L x with
   |none=>simp[j]at h
   |some u=>simp[j]at h;obtain⟨rfl,_⟩:=h;exact .gZ hc j
  ·rename_i hc
   cases j:aM L y with
   |none=>simp[j]at h
   |some u=>simp[j]at h;obtain⟨rfl,_⟩:=h;exact .QQ hc j
  ·cases h
 case unOp o t x=>
  simp only[Hc]at h;split at h
  ·split at h
   ·rename_i H;cases h;exact .cK H
   ·rename_i H;cases h;exact .cK H
   ·cases h
  ·cases h
 case binOp op xt x y yt=>
  simp only[Hc]at h;split at h
  ·rename_i k a H
   split at h
   ·rename_i k' b hy;exact Ev.binC H hy h r
   ·cases h
  ·cases h
def gC(ops:List Oper)(L:aA):Option (Nat×Bool)->Option Bool
 |none=>some true
 |some (j,b)=>match vS ops j with
  |none=>none
  |some d=>match look L d with
   |some (.bool true)=>some b
   |some (.bool false)=>some (!b)
   |some (.tuple ⟨[]⟩)=>some false
   |_=>none
def Ww(o:Oper):Oper:={o with guard:=none}
theorem RT.gT{ops r:List Oper}{K:aA->World->Prop}{o:Oper}(h:gC ops L o.guard=some true)(k:RT P n ops (Ww o::r) K L w):RT P n ops (o::r) K L w:=by
 cases g:o.guard with
 |none=>rw[show Ww o=o by unfold Ww;rw[<-g]]at k;exact k
 |some q=>
  obtain⟨j,b⟩:=q;rw[g]at h;simp only[gC]at h;split at h
  ·cases h
  ·rename_i d hd
   split at h<;>first|(cases h;done)|skip
   ·rename_i hl;cases h;exact RT.yes g hd hl Y k
   ·rename_i hl;cases b<;>cases h;exact RT.yes g hd hl Y k
theorem RT.gF{ops r:List Oper}{K:aA->World->Prop}{o:Oper}(h:gC ops L o.guard=some false)(H:bX n o.dst=true)(k:RT P n ops r K (putK o.dst undef L) w):RT P n ops (o::r) K L w:=by
 cases g:o.guard with
 |none=>rw[g]at h;cases h
 |some q=>
  obtain⟨j,b⟩:=q;rw[g]at h;simp only[gC]at h;split at h
  ·cases h
  ·rename_i d hd
   split at h<;>first|(cases h;done)|skip
   ·rename_i hl;cases b<;>cases h;exact RT.no g hd hl Y H k
   ·rename_i hl;cases b<;>cases h;exact RT.no g hd hl Y H k
   ·rename_i hl;exact RT.Xj g hd hl H k
def rZ(P:Program)[Tb P](n:Nat)(ops:List Oper):Nat->List Oper->aA->List Prop->Option (aA×List Oper×List Prop)
 |0,l,L,C=>some (L,l,C)
 |_+1,[],_,_=>none
 |k+1,⟨d,op,_,_,_,g⟩::l,L,C=>cond (bX n d) (match gC ops L g with
  |some true=>(match Hc P L op with
   |some (v,c)=>rZ P n ops k l (putK d v L) (c++C)
   |none=>none)
  |some false=>rZ P n ops k l (putK d undef L) C
  |none=>none) none
def jm{ops r:List Oper}{K:aA->World->Prop}:∀ (k:Nat) {l:List Oper} {L L':aA} {C i:List Prop},rZ P n ops k l L C=some (L',r,i)->All i->(All C->RT P n ops r K L' w)->All C/\RT P n ops l K L w
 |0,l,L,L',C,i,h,hC,hk=>by simp only[rZ,YB,XO]at h;obtain⟨rfl,rfl,rfl⟩:=h;exact⟨hC,hk hC⟩
 |k+1,[],L,L',C,i,h,hC,hk=>by simp[rZ]at h
 |k+1,⟨d,op,ty,pos,af,g⟩::l,L,L',C,i,h,hC,hk=>by
  simp only[rZ]at h;cases H:bX n d with
  |false=>rw[H]at h;cases h
  |true=>
   rw[H]at h;simp only[a0b]at h;split at h
   ·rename_i hg
    split at h
    ·rename_i v c hv
     have:=jm k h hC (λ p=>hk (All.app p).2);have j:=All.app this.1;exact⟨j.2,RT.gT (o:=⟨d,op,ty,pos,af,g⟩) hg (RT.ev (o:=⟨d,op,ty,pos,af,none⟩) Y H (Ev.C hv j.1) this.2)⟩
    ·cases h
   ·rename_i hg
    have:=jm k h hC hk;exact⟨this.1,RT.gF (o:=⟨d,op,ty,pos,af,g⟩) hg H this.2⟩
   ·cases h
def fh(P:Program)[Tb P](n:Nat)(ops:List Oper)(k:Nat)(l:List Oper)(L:aA):Option (Oper×List Oper×aA×List Prop):=match rZ P n ops k l L []with
 |some (L',⟨d,op,ty,pos,af,g⟩::r,C)=>cond (bX n d) (match gC ops L' g with
  |some true=>some (⟨d,op,ty,pos,af,none⟩,r,L',C)
  |_=>none) none
 |_=>none
def cW{ops l r:List Oper}{K:aA->World->Prop}{o:Oper}{k:Nat}{L':aA}{C:List Prop}(h:fh P n ops k l L=some (o,r,L',C))(i:All C)(j:bX n o.dst=true->o.guard=none->RT P n ops (o::r) K L' w):RT P n ops l K L w:=by
 unfold fh at h;split at h
 ·rename_i L1 d op ty pos af g r1 C1 hr
  cases H:bX n d with
  |false=>rw[H]at h;cases h
  |true=>
   rw[H]at h;simp only[a0b]at h;split at h
   ·rename_i hg
    cases h;exact(jm k hr i (λ _=>RT.gT (o:=⟨d,op,ty,pos,af,g⟩) hg (j H Y))).2
   ·cases h
 ·cases h
section
variable {ops l r:List Oper} {K:aA->World->Prop} {L':aA} {C:List Prop}
theorem RT.z(k:Nat)(h:rZ P n ops k l L []=some (L',r,C))(d:RT P n ops r K L' w)(H:All C:=by exact aC9):RT P n ops l K L w:=(jm k h H (λ _=>d)).2
theorem RT.Z(h:rZ P n ops l.length l L []=some (L',[],C))(k:K L' w)(H:All C:=by exact aC9):RT P n ops l K L w:=(jm _ h H (λ _=>.nil k)).2
theorem RT.G{b c:Bool}(t:Nat)(h:look L t=some (.bool b))(g:b=c)(k:RT P n ops l K ((t,.bool c)::L) w):RT P n ops l K L w:=by
 subst g;intro a d;refine k a ⟨d.size,λ u v H=>?_,d.defers⟩;rw[jZ]at H;by_cases e:t=u
 ·subst e;rw[Xp Y]at H;cases H;exact d.slot _ _ h
 ·rw[Xn e]at H;exact d.slot _ _ H
theorem RT.Gt{b:Bool}(t:Nat)(h:look L t=some (.bool b))(H:b=true)(k:RT P n ops l K ((t,.bool true)::L) w):RT P n ops l K L w:=RT.G t h H k
theorem RT.Gf{b:Bool}(t:Nat)(h:look L t=some (.bool b))(H:b=false)(k:RT P n ops l K ((t,.bool false)::L) w):RT P n ops l K L w:=RT.G t h H k
theorem RT.B{p:Prop}{dp:Decidable p}(t:Nat)(h:look L t=some (.bool (@decide p dp)))(g:p->RT P n ops l K ((t,.bool true)::L) w)(d:¬ p->RT P n ops l K ((t,.bool false)::L) w):RT P n ops l K L w:=by
 by_cases H:p
 ·exact RT.G t h (LW H) (g H)
 ·exact RT.G t h (IN H) (d H)
def RT.M{p:Prop}{dp:Decidable p}{M:aA}{t:Nat}{b:Bool}(h:(rZ P n ops l.length l L [],look L' t)=(some (L',[],C),some (.bool b)))(d:b= @decide p dp)
  (hw:M.map (λ q=>look L' q.1)=M.map (λ q=>some q.2):=by exact Y) (H:All C:=by exact aC9):RT P n ops l (λ L' W=>W=w/\look L' t=some (.bool (@decide p dp))/\Weak M L') L w:=by
 simp only[XO]at h;exact(jm _ h.1 H (λ _=>.nil ⟨Y,d▸h.2,wk hw⟩)).2
variable {cs:List Chunk} {w0:World}
theorem RT.ld{b o:Nat}{U:TypeId}{j:List Value}{x:Operand}{T:TypeId}{v:Value}(k:Nat)(N:Sat w0 cs w)(i:Nat)
  (h:(fh P n ops k l L,aM L' x,cs[i]?,j[o]?,(Tb.sc P).any (Nat.beq T))=(some (⟨d,.load T x,ty,pos,af,g⟩,r,L',C),some (.pointer (some ⟨b,o,none⟩)),some (ai b U j),some v,true))
  (E:RT P n ops r K (putK d v L') w) (A:All C:=by exact aC9):RT P n ops l K L w:=by
 simp only[XO]at h;obtain⟨H,p,q,u,y⟩:=h;refine cW H A λ hd D=>RT.ev D hd (.load ?_ p (N.cell q u)) E;obtain⟨t,Q,he⟩:=ZB.1 y;have:=Yw he;subst this;exact Y6.1 (Tb.sok (P:=P)) _ Q
theorem RT.lo{b m:Nat}{U:TypeId}{j:List Value}{x:Operand}{T:TypeId}(k:Nat)(D:Sat w0 cs w)(i:Nat)
  (h:(fh P n ops k l L,aM L' x,cs[i]?,ep (Tb.ag P) T,j.length)=(some (⟨d,.load T x,ty,pos,af,g⟩,r,L',C),some (.pointer (some ⟨b,0,none⟩)),some (ai b U j),some m,m))
  (A:RT P n ops r K (putK d (.agg j.toArray) L') w) (u:All C:=by exact aC9):RT P n ops l K L w:=by
 simp only[XO]at h;obtain⟨H,o,p,q,t⟩:=h;exact cW H u λ hd y=>RT.ev y hd (.dV (Y6.1 (Tb.gok (P:=P)) _ (eJ q)) o D p t) A
theorem RT.ln{α:Type}{E:Enc α}{i:List α}{x:Operand}{v:Value}{t:TypeId}{q:Nat×Nat×Value×Nat}(k:Nat)(A:RdL w v E i)
  (h:(fh P n ops k l L,aM L' x,ep (Tb.sl P) t)=(some (⟨d,.call ⟨.builtin .len,#[x],#[t]⟩,ty,pos,af,g⟩,r,L',C),some v,some q))
  (y:RT P n ops r K (putK d (.int .i64 (i.length:Int)) L') w) (p:All C:=by exact aC9):RT P n ops l K L w:=by
 simp only[XO]at h;obtain⟨H,j,o⟩:=h;exact cW H p λ hd u=>RT.ev u hd (.TT (qJ (Tb.lok (P:=P)) (eJ o)).und j A) y
theorem RT.c{f:FuncId}{vs:List Value}{Φ:Value->World->Prop}[he:Ent P f]{X:List Operand}{A:Array TypeId}(k:Nat)(o:CallsV P f vs w Φ)
  (h:(fh P n ops k l L,pB L' X)=(some (⟨d,.call ⟨.value (.func f),X.toArray,A⟩,ty,pos,af,g⟩,r,L',C),some vs))
  (q:∀ v W,Φ v W->RT P n ops r K (putK d v L') W) (j:All C:=by exact aC9):RT P n ops l K L w:=by
 simp only[XO]at h;obtain⟨H,i⟩:=h;exact cW H j λ hd p=>RT.MN p hd (.call he.h i (o.mono q))
theorem RT.a{o:Oper}{v:Value}(k:Nat)(h:fh P n ops k l L=some (o,r,L',C))(he:Ev P n L' w o v)(d:RT P n ops r K (putK o.dst v L') w)(H:All C:=by exact aC9):RT P n ops l K L w:=
 cW h H λ hd g=>RT.ev g hd he d
theorem RT.b{o:Oper}(k:Nat)(h:fh P n ops k l L=some (o,r,L',C))(he:OpE P n L' w o λ v W=>RT P n ops r K (putK o.dst v L') W)(H:All C:=by exact aC9):RT P n ops l K L w:=
 cW h H λ hd g=>RT.MN g hd he
end
section
variable {N R:aA->World->Prop} {X G:List (Nat×(aA->World->Prop))} {L':aA} {C:List Prop} {y:Code} {id:Nat} {l:List Oper}
theorem CW.Z(h:rZ P n l l.length l L []=some (L',[],C))(k:CW P n y ⟨N,R,X,G⟩ L' w)(H:All C:=by exact aC9):CW P n (.seq (.region id l.toArray false) y) ⟨N,R,X,G⟩ L w:=.seq<|.region<|(jm _ h H (λ _=>.nil k)).2
def CW.U(h:rZ P n l l.length l L []=some (L',[],C))(k:N L' w)(H:All C:=by exact aC9):CW P n (.region id l.toArray false) ⟨N,R,X,G⟩ L w:=.region<|(jm _ h H (λ _=>.nil k)).2
def RT.W{a b:Code}{ops:List Oper}(h:rZ P n ops l.length l L []=some (L',[],C))(k:CW P n a ⟨λ L w=>CW P n b ⟨N,R,X,G⟩ L w,R,X,G⟩ L' w)(H:All C:=by exact aC9):RT P n ops l (λ L w=>CW P n (.seq a b) ⟨N,R,X,G⟩ L w) L w:=RT.Z h (.seq k) H
def CW.W{a b:Code}(h:rZ P n l l.length l L []=some (L',[],C))(k:CW P n a ⟨λ L w=>CW P n b ⟨N,R,X,G⟩ L w,R,X,G⟩ L' w)(H:All C:=by exact aC9):CW P n (.seq (.region id l.toArray false) (.seq a b)) ⟨N,R,X,G⟩ L w:=CW.Z h (.seq k) H
def RT.V{i:Nat}{a:Code}{ops:List Oper}(h:rZ P n ops l.length l L []=some (L',[],C))(k:CW P n a ⟨N,R,(i,N)::X,G⟩ L' w)(H:All C:=by exact aC9):RT P n ops l (λ L w=>CW P n (.block i a) ⟨N,R,X,G⟩ L w) L w:=RT.Z h (.block k) H
def CW.V{i:Nat}{a:Code}(h:rZ P n l l.length l L []=some (L',[],C))(k:CW P n a ⟨N,R,(i,N)::X,G⟩ L' w)(H:All C:=by exact aC9):CW P n (.seq (.region id l.toArray false) (.block i a)) ⟨N,R,X,G⟩ L w:=CW.Z h (.block k) H
def CW.h(h:RT P n l l (λ L w=>CW P n y ⟨N,R,X,G⟩ L w) L w):CW P n (.seq (.region id l.toArray false) y) ⟨N,R,X,G⟩ L w:=.seq<|.region h
end
end
section
variable {P:Program} [Tb P] {n:Nat} {L:aA} {w:World} {S:World->Prop} {SS:List (World->Prop)} {K:aA->World->Prop} {ops:List Oper}
def mS{o:Oper}{a:Act}(H:Fits n L a){b:Bool}(h:gC ops L o.guard=some b):Region.wanted o (yielded ops.toArray a.tmps)=b:=by
 cases g:o.guard with
 |none=>rw[g]at h;cases h;simp[Region.wanted,g]
 |some q=>
  obtain⟨j,c⟩:=q;rw[g]at h;simp only[gC]at h;split at h
  ·cases h
  ·rename_i d hd
   split at h<;>first|(cases h;done)|skip
   ·rename_i hl;simp only[Region.wanted,g,H.yielded hd hl];cases c<;>cases h<;>rfl
   ·rename_i hl;simp only[Region.wanted,g,H.yielded hd hl];cases c<;>cases h<;>rfl
   ·rename_i hl;cases h;simp only[Region.wanted,g,H.C4 hd hl];rfl
theorem RP.gF{i:Nat}{o:Oper}{p:Plan}(g:ops[i]? =some o)(h:gC ops L o.guard=some false)(hd:bX n o.dst=true)(d:S w)(k:RP P n ops (S::SS) p K (putK o.dst undef L) w):RP P n ops (S::SS) (.free i p) K L w:=λ a H=>
 ⟨o,undef,g,.inr ⟨mS H h,Y⟩,d,k _ (H.putK hd)⟩
theorem RP.gT{i:Nat}{o:Oper}{v:Value}{p:Plan}(j:ops[i]? =some o)(h:gC ops L o.guard=some true)(hd:bX n o.dst=true)(he:∀ W,S W->Ev P n L W o v)(g:S w)(k:RP P n ops (S::SS) p K (putK o.dst v L) w):RP P n ops (S::SS) (.free i p) K L w:=λ a H=>
 ⟨o,v,j,.inl ⟨mS H h,λ W d=>he W d a H⟩,g,k _ (H.putK hd)⟩
def RP.fF{i:Nat}{o:Oper}{p:Plan}(j:ops[i]? =some o)(h:gC ops L o.guard=some false)(hd:bX n o.dst=true)(g:S w)(k:RP P n ops (S::SS) p K (putK o.dst undef L) w):RP P n ops (S::SS) (.one i p) K L w:=λ a d=>by
 have H:ops.toArray[i]? =some o:=a4P
 show wpOp P ops.toArray (RQ n K) i _ a w;unfold wpOp;simp only[H,mS d h];exact⟨S,λ _ h=>h,g,k _ (d.putK hd)⟩
def RP.fT{i:Nat}{o:Oper}{p:Plan}(l:ops[i]? =some o)(h:gC ops L o.guard=some true)(hd:bX n o.dst=true)(he:OpE P n L w o λ v W=>S W/\RP P n ops (S::SS) p K (putK o.dst v L) W):RP P n ops (S::SS) (.one i p) K L w:=λ a H=>by
 have d:ops.toArray[i]? =some o:=a2Q
 show wpOp P ops.toArray (RQ n K) i _ a w;unfold wpOp;simp only[d,mS H h,Z7];exact .inl ((OpE.same (R:=λ T v W=>RP P n ops (T::SS) p K (putK o.dst v L) W) he) a H _ _ λ v W ⟨T,g,j,k⟩=>⟨T,g,j,k _ (H.putK hd)⟩)
def ny(P:Program)[Tb P](n:Nat)(ops:List Oper):Nat->Plan->aA->List Prop->Option (aA×Plan×List Prop)
 |0,p,L,C=>some (L,p,C)
 |k+1,.free i p,L,C=>(match ops[i]? with
  |some ⟨d,op,_,_,_,g⟩=>cond (bX n d) (match gC ops L g with
   |some true=>(match Hc P L op with
    |some (v,c)=>ny P n ops k p (putK d v L) (c++C)
    |none=>none)
   |some false=>ny P n ops k p (putK d undef L) C
   |none=>none) none
  |none=>none)
 |k+1,.one i p,L,C=>(match ops[i]? with
  |some ⟨d,op,_,_,_,g⟩=>cond (bX n d) (match gC ops L g with
   |some true=>(match Hc P L op with
    |some (v,c)=>ny P n ops k p (putK d v L) (c++C)
    |none=>none)
   |some false=>ny P n ops k p (putK d undef L) C
   |none=>none) none
  |none=>none)
 |_+1,_,_,_=>none
def iB{q:Plan}(l:S w):∀ (k:Nat) {p:Plan} {L L':aA} {C j:List Prop},ny P n ops k p L C=some (L',q,j)->All j->(All C->RP P n ops (S::SS) q K L' w)->All C/\RP P n ops (S::SS) p K L w
 |0,p,L,L',C,j,h,hC,hk=>by simp only[ny,YB,XO]at h;obtain⟨rfl,rfl,rfl⟩:=h;exact⟨hC,hk hC⟩
 |k+1,.free i p,L,L',C,j,h,hC,hk=>by
  simp only[ny]at h;split at h
  ·rename_i d op ty pos af g ho
   cases H:bX n d with
   |false=>rw[H]at h;cases h
   |true=>
    rw[H]at h;simp only[a0b]at h;split at h
    ·rename_i hg
     split at h
     ·rename_i v c hv
      have:=iB l k h hC (λ r=>hk (All.app r).2);have o:=All.app this.1;exact⟨o.2,RP.gT ho hg H (λ _ _=>Ev.C hv o.1) l this.2⟩
     ·cases h
    ·rename_i hg
     have:=iB l k h hC hk;exact⟨this.1,RP.gF ho hg H l this.2⟩
    ·cases h
  ·cases h
 |k+1,.one i p,L,L',C,j,h,hC,hk=>by
  simp only[ny]at h;split at h
  ·rename_i d op ty pos af g ho
   cases H:bX n d with
   |false=>rw[H]at h;cases h
   |true=>
    rw[H]at h;simp only[a0b]at h;split at h
    ·rename_i hg
     split at h
     ·rename_i v c hv
      have:=iB l k h hC (λ r=>hk (All.app r).2);have o:=All.app this.1;exact⟨o.2,RP.fT ho hg H (OpE.ev (Ev.C hv o.1) ⟨l,this.2⟩)⟩
     ·cases h
    ·rename_i hg
     have:=iB l k h hC hk;exact⟨this.1,RP.fF ho hg H l this.2⟩
    ·cases h
  ·cases h
 |k+1,.fin,L,L',C,j,h,hC,hk=>by simp[ny]at h
 |k+1,.loose _ _,L,L',C,j,h,hC,hk=>by simp[ny]at h
 |k+1,.bar _ _,L,L',C,j,h,hC,hk=>by simp[ny]at h
 |k+1,.two _ _ _ _,L,L',C,j,h,hC,hk=>by simp[ny]at h
 |k+1,.three _ _ _ _ _ _,L,L',C,j,h,hC,hk=>by simp[ny]at h
def jo(P:Program)[Tb P](n:Nat)(ops:List Oper)(k:Nat)(p:Plan)(L:aA):Option (Bool×Oper×Plan×aA×List Prop):=match ny P n ops k p L []with
 |some (L',.free i q,C)=>(match ops[i]? with
  |some o=>cond (bX n o.dst) (match gC ops L' o.guard with
   |some true=>some (true,o,q,L',C)
   |_=>none) none
  |none=>none)
 |some (L',.one i q,C)=>(match ops[i]? with
  |some o=>cond (bX n o.dst) (match gC ops L' o.guard with
   |some true=>some (false,o,q,L',C)
   |_=>none) none
  |none=>none)
 |_=>none
variable {p q:Plan} {L':aA} {C:List Prop} {o:Oper}
def gK{k:Nat}{v:Value}{bb:Bool}(d:S w)(h:jo P n ops k p L=some (bb,o,q,L',C))(g:All C)(he:∀ W,S W->Ev P n L' W o v)(j:RP P n ops (S::SS) q K (putK o.dst v L') w):RP P n ops (S::SS) p K L w:=by
 unfold jo at h;split at h
 ·rename_i L1 i q1 C1 hr
  split at h
  ·rename_i o1 ho
   cases H:bX n o1.dst with
   |false=>rw[H]at h;cases h
   |true=>
    rw[H]at h;simp only[a0b]at h;split at h
    ·rename_i hg
     cases h;exact(iB d k hr g (λ _=>RP.gT ho hg H he d j)).2
    ·cases h
  ·cases h
 ·rename_i L1 i q1 C1 hr
  split at h
  ·rename_i o1 ho
   cases H:bX n o1.dst with
   |false=>rw[H]at h;cases h
   |true=>
    rw[H]at h;simp only[a0b]at h;split at h
    ·rename_i hg
     cases h;exact(iB d k hr g (λ _=>RP.fT ho hg H (OpE.ev (he w d) ⟨d,j⟩))).2
    ·cases h
  ·cases h
 ·cases h
def xf{k:Nat}(g:S w)(h:jo P n ops k p L=some (false,o,q,L',C))(d:All C)(he:OpE P n L' w o λ v W=>S W/\RP P n ops (S::SS) q K (putK o.dst v L') W):RP P n ops (S::SS) p K L w:=by
 unfold jo at h;split at h
 ·split at h
  ·rename_i o1 ho
   cases H:bX n o1.dst with
   |false=>rw[H]at h;cases h
   |true=>
    rw[H]at h;simp only[a0b]at h;split at h<;>cases h
  ·cases h
 ·rename_i L1 i q1 C1 hr
  split at h
  ·rename_i o1 ho
   cases H:bX n o1.dst with
   |false=>rw[H]at h;cases h
   |true=>
    rw[H]at h;simp only[a0b]at h;split at h
    ·rename_i hg
     cases h;exact(iB g k hr d (λ _=>RP.fT ho hg H he)).2
    ·cases h
  ·cases h
 ·cases h
theorem RP.z(k:Nat)(d:S w)(h:ny P n ops k p L []=some (L',q,C))(g:RP P n ops (S::SS) q K L' w)(H:All C:=by exact aC9):RP P n ops (S::SS) p K L w:=(iB d k h H (λ _=>g)).2
theorem RP.Z(d:S w)(h:ny P n ops p.depth p L []=some (L',.fin,C))(k:K L' w)(H:All C:=by exact aC9):RP P n ops (S::SS) p K L w:=(iB d _ h H (λ _=>.fin k)).2
theorem RP.G{b c:Bool}(t:Nat)(h:look L t=some (.bool b))(g:b=c)(k:RP P n ops (S::SS) p K ((t,.bool c)::L) w):RP P n ops (S::SS) p K L w:=by
 subst g;intro a d;refine k a ⟨d.size,λ u v H=>?_,d.defers⟩;rw[jZ]at H;by_cases e:t=u
 ·subst e;rw[Xp Y]at H;cases H;exact d.slot _ _ h
 ·rw[Xn e]at H;exact d.slot _ _ H
theorem RP.Gt{b:Bool}(t:Nat)(h:look L t=some (.bool b))(H:b=true)(k:RP P n ops (S::SS) p K ((t,.bool true)::L) w):RP P n ops (S::SS) p K L w:=RP.G t h H k
theorem RP.Gf{b:Bool}(t:Nat)(h:look L t=some (.bool b))(H:b=false)(k:RP P n ops (S::SS) p K ((t,.bool false)::L) w):RP P n ops (S::SS) p K L w:=RP.G t h H k
theorem RP.B{φ:Prop}{dp:Decidable φ}(t:Nat)(h:look L t=some (.bool (@decide φ dp)))(g:φ->RP P n ops (S::SS) p K ((t,.bool true)::L) w)(d:¬ φ->RP P n ops (S::SS) p K ((t,.bool false)::L) w):RP P n ops (S::SS) p K L w:=by
 by_cases H:φ
 ·exact RP.G t h (LW H) (g H)
 ·exact RP.G t h (IN H) (d H)
variable {cs:List Chunk} {w0:World} {bb:Bool} {d:Option Nat} {ty:TypeId} {pos:String} {af:Array Edge} {g:Option (Nat×Bool)}
theorem RP.ld{b o:Nat}{U:TypeId}{j:List Value}{x:Operand}{T:TypeId}{v:Value}(k:Nat)(D:Sat w0 cs w)(i:Nat)
  (h:(jo P n ops k p L,aM L' x,cs[i]?,j[o]?,(Tb.sc P).any (Nat.beq T))=(some (bb,⟨d,.load T x,ty,pos,af,g⟩,q,L',C),some (.pointer (some ⟨b,o,none⟩)),some (ai b U j),some v,true))
  (E:RP P n ops ((λ W=>Sat w0 cs W)::SS) q K (putK d v L') w) (A:All C:=by exact aC9):RP P n ops ((λ W=>Sat w0 cs W)::SS) p K L w:=by
 simp only[XO]at h;obtain⟨H,l,r,u,y⟩:=h;refine gK (S:=λ W=>Sat w0 cs W) D H A (λ W N=>.load ?_ l (Sat.cell N r u)) E;obtain⟨t,Q,he⟩:=ZB.1 y;have:=Yw he;subst this;exact Y6.1 (Tb.sok (P:=P)) _ Q
theorem RP.c{f:FuncId}{vs:List Value}{Φ:Value->World->Prop}[he:Ent P f]{X:List Operand}{A:Array TypeId}(k:Nat)(l:S w)(o:CallsV P f vs w Φ)
  (h:(jo P n ops k p L,pB L' X)=(some (false,⟨d,.call ⟨.value (.func f),X.toArray,A⟩,ty,pos,af,g⟩,q,L',C),some vs))
  (r:∀ v W,Φ v W->S W/\RP P n ops (S::SS) q K (putK d v L') W) (j:All C:=by exact aC9):RP P n ops (S::SS) p K L w:=by
 simp only[XO]at h;obtain⟨H,i⟩:=h;exact xf l H j (.call he.h i (o.mono r))
theorem RP.a{v:Value}(k:Nat)(d:S w)(h:jo P n ops k p L=some (bb,o,q,L',C))(he:∀ W,S W->Ev P n L' W o v)(g:RP P n ops (S::SS) q K (putK o.dst v L') w)(H:All C:=by exact aC9):RP P n ops (S::SS) p K L w:=gK d h H he g
theorem RP.b(k:Nat)(d:S w)(h:jo P n ops k p L=some (false,o,q,L',C))(he:OpE P n L' w o λ v W=>S W/\RP P n ops (S::SS) q K (putK o.dst v L') W)(H:All C:=by exact aC9):RP P n ops (S::SS) p K L w:=xf d h H he
end
abbrev Sat.L{w0 w:World}{cs:List Chunk}(_:Sat w0 cs w):List Chunk:=cs
def RN:List Chunk->List (Nat×Chunk)->List Chunk
 |cs,[]=>cs
 |cs,(i,c)::r=>RN (cs.set i c) r
abbrev Sat.U{w0 w:World}{cs:List Chunk}(_:Sat w0 cs w)(u:List (Nat×Chunk)):List Chunk:=RN cs u
abbrev Sat.V{w0 w:World}{A cs:List Chunk}(_:Sat w0 (A++cs) w)(u:List (Nat×Chunk)):List Chunk:=RN A u
section
variable {P:Program} {n:Nat} {N R:aA->World->Prop} {X G:List (Nat×(aA->World->Prop))} {L L0:aA} {w:World}
def CW.lp{c:Code}{α:Type}(ts:List Nat)(h:pC ts L=some L0)(K:α->aA)(i:α->World->Prop)(μ:α->Nat)(g:α)(h0:Weak (K g++L0) L)(H:i g w)
  (r:∀ x w,i x w->CW P n c ⟨λ L' W=>∃ d,Weak (K d++L0) L'/\i d W/\μ d<μ x,R,X,G⟩ (K x++L0) w):CW P n (.loop c) ⟨N,R,X,G⟩ L w:=CW.loop (λ x=>K x++L0) i μ g h0 H r
def CW.jn{x y:Code}(ts:List Nat)(h:pC ts L=some L0)(M:aA->aA->World->Prop)(h1:CW P n x ⟨M L0,R,X,G⟩ L w)(h2:∀ L' W,M L0 L' W->CW P n y ⟨N,R,X,G⟩ L' W):CW P n (.seq x y) ⟨N,R,X,G⟩ L w:=CW.DN (M L0) h1 h2
def CW.md{c:Code}(ts:List Nat)(h:pC ts L=some L0)(M:aA->aA->World->Prop)(h1:CW P n c ⟨M L0,R,X,G⟩ L w)(h2:∀ L' W,M L0 L' W->N L' W):CW P n c ⟨N,R,X,G⟩ L w:=CW.sR (M L0) h1 h2
end
