/-
 Kau:runs of operations that are found by computing,with what they ask as one list;facts on types as tables. Our own text;it names no program.
-/
import Derived.Test.YtcmldpiicnobnaaGreatDoorKp
import Derived.Test.YtcmldpiicnobnaaGreatDoorM13
import Derived.Test.YtcmldpiicnobnaaGreatDoorKy
set_option linter.all false
open Go.Proofs.YtcmldpiicnobnaaGreatDoor
open List
namespace Go.Kw
open Go.RowKit
def JG(P:Program)(t:Nat):Bool:=match P.info? t with
 |some i=>Nat.beq i.size 1
 |none=>false
def Bc{P:Program}{t:Nat}(h:JG P t=true):(P.info? t).map (·.size)=some 1:=by
 unfold JG at h;split at h
 ·rename_i i hi;rw[hi];simp[Pv h]
 ·cases h
def JH(P:Program)(t:Nat)(k:IntKind):Bool:=match P.underlying t with
 |some (.int k')=>decide (k'=k)
 |_=>false
def CY{P:Program}{t:Nat}{k:IntKind}(h:JH P t k=true):P.underlying t=some (.int k):=by
 unfold JH at h;split at h
 ·rename_i k' hu;have:=Pl h;subst this;exact hu
 ·cases h
def uK(P:Program)(T:Nat):Nat->List Nat->Bool
 |_,[]=>true
 |i,o::r=>qW P T i o&&uK P T (i+1) r
def CZ(P:Program):List (Nat×Nat×Nat×Value×Nat)->Prop
 |[]=>True
 |(t,e,s,z,b)::r=>SlTy P t e s z b/\CZ P r
def nc{P:Program}{t e s b:Nat}{z:Value}:∀ {l:List (Nat×Nat×Nat×Value×Nat)},CZ P l->(t,e,s,z,b)∈l->SlTy P t e s z b
 |[],_,h=>by cases h
 |(_,_,_,_,_)::r,hl,h=>by
  rcases LD.1 h with h|h
  ·cases h;exact hl.1
  ·exact nc hl.2 h
def D0(P:Program):List (Nat×Value)->Prop
 |[]=>True
 |(t,z)::r=>(P.info? t).map (·.zero)=some (some z)/\D0 P r
def rH{P:Program}{t:Nat}{z:Value}:∀ {l:List (Nat×Value)},D0 P l->(t,z)∈l->(P.info? t).map (·.zero)=some (some z)
 |[],_,h=>by cases h
 |(_,_)::r,hl,h=>by
  rcases LD.1 h with h|h
  ·cases h;exact hl.1
  ·exact rH hl.2 h
class Tb(P:Program) where
 fl:List (Nat×List Nat)
 fok:fl.all (λ e=>uK P e.1 0 e.2)=true
 it:List (Nat×IntKind)
 iok:it.all (λ e=>JH P e.1 e.2)=true
 sc:List Nat
 sok:sc.all (jh P)=true
 ook:sc.all (JG P)=true
 ag:List (Nat×Nat)
 gok:ag.all (λ e=>db P e.1 e.2)=true
 sl:List (Nat×Nat×Nat×Value×Nat)
 lok:CZ P sl
 zr:List (Nat×Value)
 zok:D0 P zr
class Ent(P:Program)(f:FuncId):Prop where
 h:Enters P f
def dq{α:Type}:List (Nat×α)->Nat->Option α
 |[],_=>none
 |(t,a)::r,T=>cond (Nat.beq t T) (some a) (dq r T)
def dC{α:Type}{T:Nat}{a:α}:∀ {l:List (Nat×α)},dq l T=some a->(T,a)∈l
 |[],h=>by cases h
 |(t,b)::r,h=>by
  simp only[dq]at h;cases hb:Nat.beq t T with
  |true=>rw[hb]at h;cases h;have:=Pv hb;subst this;exact Pu
  |false=>rw[hb]at h;exact Pe _ (dC h)
def rI{P:Program}{T:Nat}:∀ {l:List Nat} {i f o:Nat},uK P T i l=true->l[f]? =some o->qW P T (i+f) o=true
 |[],_,_,_,_,h=>by cases h
 |a::r,i,0,o,hl,h=>by simp only[uK,OK]at hl;simp at h;subst h;exact hl.1
 |a::r,i,f+1,o,hl,h=>by
  simp only[uK,OK]at hl;have:=rI hl.2 (f:=f) (by simpa using h);rwa[show i+(f+1)=i+1+f by omega]
section
variable {P:Program} [Tb P]
def Tb.N9{T f o:Nat}{l:List Nat}(h:dq (Tb.fl P) T=some l)(hl:l[f]? =some o):qW P T f o=true:=by
 have:=Pn.1 (Tb.fok (P:=P)) _ (dC h);have:=rI this hl;rwa[Pa]at this
def Tb.int{t:Nat}{k:IntKind}(h:dq (Tb.it P) t=some k):P.underlying t=some (.int k):=
 CY (Pn.1 (Tb.iok (P:=P)) _ (dC h))
end
def nV(L:aA):Operand->Option (IntKind×Nat)
 | .const (.int k (.ofNat b))=>some (k,@OfNat.ofNat Nat b (instOfNatNat b))
 | .tmp t=>match look L t with
  |some (.int k (.ofNat b))=>some (k,b)
  |_=>none
 |_=>none
def uL{L:aA}{x:Operand}{k:IntKind}{a:Nat}(h:nV L x=some (k,a)):aH L x=some (.int k (a:Int)):=by
 unfold nV at h;split at h
 ·cases h;rfl
 ·rename_i t
  split at h
  ·rename_i k' b hl;cases h;exact hl
  ·cases h
 ·cases h
def Ir(b:Nat):Option Nat:=dq [(127,7),(1,1),(255,8),(3,2),(7,3),(15,4),(31,5),(63,6)] b
def D1{b m:Nat}(h:Ir b=some m):b=2^m-1:=by
 have:=dC h;simp only[LD,OY,KY,OE]at this;rcases this with⟨rfl,rfl⟩|⟨rfl,rfl⟩|⟨rfl,rfl⟩|⟨rfl,rfl⟩|⟨rfl,rfl⟩|⟨rfl,rfl⟩|⟨rfl,rfl⟩|⟨rfl,rfl⟩<;>rfl
def binC(k:IntKind)(a:Nat)(k':IntKind)(b:Nat):BinOp->Option (Value×List Prop)
 | .add=>match k with
  | .i64=>some (.int .i64 ((a+b:Nat):Int),[k'= .i64,a+b<=9223372036854775807])
  |_=>none
 | .sub=>match k with
  | .i64=>some (.int .i64 ((a-b:Nat):Int),[k'= .i64,b<=a,a<=9223372036854775807])
  |_=>none
 | .mul=>match k with
  | .i64=>some (.int .i64 ((a*b:Nat):Int),[k'= .i64,a*b<=9223372036854775807])
  |_=>none
 | .lss=>some (.bool (decide (a<b)),[k'=k])
 | .leq=>some (.bool (decide (a<=b)),[k'=k])
 | .gtr=>some (.bool (decide (b<a)),[k'=k])
 | .geq=>some (.bool (decide (b<=a)),[k'=k])
 | .eql=>some (.bool (decide (a=b)),[k'=k])
 | .neq=>some (.bool (decide (a≠b)),[k'=k])
 | .shr=>some (.int k ((a/2^b:Nat):Int),[a<2^k.bits])
 | .shl=>some (.int k ((a*2^b%2^k.bits:Nat):Int),[k.signed=false,b<=k.bits])
 | .or=>some (.int k ((a|||b:Nat):Int),[k'=k,k.signed=false,a<2^k.bits,b<2^k.bits])
 | .and=>match Ir b with
  |some m=>some (.int k ((a%2^m:Nat):Int),[k'=k,k.signed=false,a<2^k.bits,b<2^k.bits])
  |none=>none
 |_=>none
def All:List Prop->Prop
 |[]=>True
 |p::r=>p/\All r
theorem All.app:∀ {a b:List Prop},All (a++b)->All a/\All b
 |[],_,h=>⟨trivial,h⟩
 |_::_,_,h=>⟨⟨h.1,(All.app h.2).1⟩,(All.app h.2).2⟩
def Bd(P:Program)[Tb P](L:aA):Op->Option (Value×List Prop)
 | .move x=>match x with
  | .const (.int k (.ofNat b))=>some (.int k ((@OfNat.ofNat Nat b (instOfNatNat b):Nat):Int),[])
  |x=>(aH L x).map λ v=>(v,[])
 | .assign x=>match x with
  | .const (.int k (.ofNat b))=>some (.int k ((@OfNat.ofNat Nat b (instOfNatNat b):Nat):Int),[])
  |x=>(aH L x).map λ v=>(v,[])
 | .extract x i=>match aH L x with
  |some (.tuple vs)=>(vs[i]?).map λ v=>(v,[])
  |_=>none
 | .nilCheck x=>match aH L x with
  |some (.pointer (some p))=>some (.pointer (some p),[])
  |_=>none
 | .fieldAddr T x f=>match aH L x with
  |some (.pointer (some ⟨b,o,none⟩))=>match dq (Tb.fl P) T with
   |some l=>(match l[f]? with
    |some off=>cond (Nat.beq o 0) (some (.pointer (some ⟨b,off,none⟩),[])) (some (.pointer (some ⟨b,o+off,none⟩),[]))
    |none=>none)
   |none=>none
  |_=>none
 | .convert s t x=>match nV L x with
  |some (_,a)=>match dq (Tb.it P) s with
   |some _=>match dq (Tb.it P) t with
    |some k=>cond k.signed (match k with
     | .i64=>some (.int .i64 ((a:Nat):Int),[a<2^63])
     |_=>none) (some (.int k ((a:Nat):Int),[a<2^k.bits]))
    |none=>none
   |none=>none
  |none=>none
 | .pick c x y=>match aH L c with
  |some (.bool true)=>(aH L x).map λ v=>(v,[])
  |some (.bool false)=>(aH L y).map λ v=>(v,[])
  |_=>none
 | .unOp op _ x=>match op with
  | .not=>match aH L x with
   |some (.bool true)=>some (.bool false,[])
   |some (.bool false)=>some (.bool true,[])
   |_=>none
  |_=>none
 | .binOp op _ x y _=>match nV L x with
  |some (k,a)=>match nV L y with
   |some (k',b)=>binC k a k' b op
   |none=>none
  |none=>none
 |_=>none
section
variable {P:Program} [Tb P] {n:Nat} {L:aA} {w:World} {d:Option Nat} {ty:TypeId} {pos:String} {af:Array Edge} {g:Option (Nat×Bool)}
theorem Ev.binC{op:BinOp}{x y:Operand}{xt yt:TypeId}{k k':IntKind}{a b:Nat}{v:Value}{C:List Prop}(hx:nV L x=some (k,a))(hy:nV L y=some (k',b))(h:binC k a k' b op=some (v,C))(hC:All C):Ev P n L w ⟨d,.binOp op xt x y yt,ty,pos,af,g⟩ v:=by
 have hx:=uL hx;have hy:=uL hy;cases op<;>simp only[Kw.binC]at h<;>try (cases h;done)
 case add=>split at h<;>cases h;obtain⟨rfl,h1,_⟩:=hC;exact .Lb hx hy h1
 case sub=>split at h<;>cases h;obtain⟨rfl,h1,h2,_⟩:=hC;exact .NH hx hy h1 h2
 case mul=>split at h<;>cases h;obtain⟨rfl,h1,_⟩:=hC;exact .NW hx hy h1
 case lss=>cases h;obtain⟨rfl,_⟩:=hC;exact .NV hx hy
 case leq=>cases h;obtain⟨rfl,_⟩:=hC;exact .NN hx hy
 case gtr=>cases h;obtain⟨rfl,_⟩:=hC;exact .NU hx hy
 case geq=>cases h;obtain⟨rfl,_⟩:=hC;exact .NX hx hy
 case eql=>cases h;obtain⟨rfl,_⟩:=hC;exact .O5 hx hy
 case neq=>cases h;obtain⟨rfl,_⟩:=hC;exact .O2 hx hy
 case shr=>cases h;exact .MO hx hy hC.1
 case shl=>cases h;exact .NK hx hy hC.1 hC.2.1
 case or=>cases h;obtain⟨rfl,h1,h2,h3,_⟩:=hC;exact .Ov hx hy h1 h2 h3
 case and=>
  split at h
  ·rename_i m hm;cases h;obtain⟨rfl,h1,h2,h3,_⟩:=hC;exact .J8 m hx hy h1 (D1 hm) h2 h3
  ·cases h
def uM{x:Operand}{v:Value}{C:List Prop}(h:Bd P L (.move x)=some (v,C)):aH L x=some v:=by
 simp only[Bd]at h;split at h
 ·cases h;rfl
 ·cases hv:aH L x with
  |none=>simp[hv]at h
  |some u=>simp[hv]at h;rw[h.1]
def Ev.C{op:Op}{v:Value}{C:List Prop}(h:Bd P L op=some (v,C))(hC:All C):Ev P n L w ⟨d,op,ty,pos,af,g⟩ v:=by
 cases op<;>try (cases h;done)
 case move x=>exact .move (uM h)
 case assign x=>exact .assign (uM (P:=P) h)
 case extract x i=>
  simp only[Bd]at h;split at h
  ·rename_i vs hx
   cases hv:vs[i]? with
   |none=>simp[hv]at h
   |some u=>simp[hv]at h;obtain⟨rfl,_⟩:=h;exact .extract hx hv
  ·cases h
 case nilCheck x=>
  simp only[Bd]at h;split at h
  ·rename_i p hx;cases h;exact .nilCheck hx
  ·cases h
 case fieldAddr T x f=>
  simp only[Bd]at h;split at h
  ·rename_i b o hx
   split at h
   ·rename_i l hl
    cases ho:l[f]? with
    |none=>simp[ho]at h
    |some off=>
     simp only[ho]at h;cases hb:Nat.beq o 0 with
     |true=>rw[hb]at h;cases h;have:=Pv hb;subst this;exact .fieldAddr (Tb.N9 hl ho) hx (by simp)
     |false=>rw[hb]at h;cases h;exact .fieldAddr (Tb.N9 hl ho) hx J
   ·cases h
  ·cases h
 case convert s t x=>
  simp only[Bd]at h;split at h
  ·rename_i k0 a hx
   split at h
   ·rename_i ks hs
    split at h
    ·rename_i k ht
     have hx:=uL hx;have h1:(P.underlying s).isSome=true:=by rw[Tb.int hs];rfl
     cases hk:k.signed with
     |true=>
      rw[hk]at h;simp only[QE]at h;split at h<;>cases h;exact .J7 h1 (Tb.int ht) hx (tm hC.1)
     |false=>rw[hk]at h;cases h;exact .J7 h1 (Tb.int ht) hx (pI hk hC.1)
    ·cases h
   ·cases h
  ·cases h
 case pick c x y=>
  simp only[Bd]at h;split at h
  ·rename_i hc
   cases hv:aH L x with
   |none=>simp[hv]at h
   |some u=>simp[hv]at h;obtain⟨rfl,_⟩:=h;exact .jG hc hv
  ·rename_i hc
   cases hv:aH L y with
   |none=>simp[hv]at h
   |some u=>simp[hv]at h;obtain⟨rfl,_⟩:=h;exact .MT hc hv
  ·cases h
 case unOp o t x=>
  simp only[Bd]at h;split at h
  ·split at h
   ·rename_i hx;cases h;exact .cO hx
   ·rename_i hx;cases h;exact .cO hx
   ·cases h
  ·cases h
 case binOp op xt x y yt=>
  simp only[Bd]at h;split at h
  ·rename_i k a hx
   split at h
   ·rename_i k' b hy;exact Ev.binC hx hy h hC
   ·cases h
  ·cases h
def gC(ops:List Oper)(L:aA):Option (Nat×Bool)->Option Bool
 |none=>some true
 |some (j,b)=>match uS ops j with
  |none=>none
  |some d=>match look L d with
   |some (.bool true)=>some b
   |some (.bool false)=>some (!b)
   |some (.tuple ⟨[]⟩)=>some false
   |_=>none
def Nh(o:Oper):Oper:={o with guard:=none}
theorem RT.gT{ops r:List Oper}{K:aA->World->Prop}{o:Oper}(h:gC ops L o.guard=some true)(hk:RT P n ops (Nh o::r) K L w):RT P n ops (o::r) K L w:=by
 cases hg:o.guard with
 |none=>rw[show Nh o=o by unfold Nh;rw[<-hg]]at hk;exact hk
 |some q=>
  obtain⟨j,b⟩:=q;rw[hg]at h;simp only[gC]at h;split at h
  ·cases h
  ·rename_i d hd
   split at h<;>first|(cases h;done)|skip
   ·rename_i hl;cases h;exact RT.yes hg hd hl J hk
   ·rename_i hl;cases b<;>cases h;exact RT.yes hg hd hl J hk
theorem RT.gF{ops r:List Oper}{K:aA->World->Prop}{o:Oper}(h:gC ops L o.guard=some false)(ho:bI n o.dst=true)(hk:RT P n ops r K (putK o.dst undef L) w):RT P n ops (o::r) K L w:=by
 cases hg:o.guard with
 |none=>rw[hg]at h;cases h
 |some q=>
  obtain⟨j,b⟩:=q;rw[hg]at h;simp only[gC]at h;split at h
  ·cases h
  ·rename_i d hd
   split at h<;>first|(cases h;done)|skip
   ·rename_i hl;cases b<;>cases h;exact RT.no hg hd hl J ho hk
   ·rename_i hl;cases b<;>cases h;exact RT.no hg hd hl J ho hk
   ·rename_i hl;exact RT.Oq hg hd hl ho hk
def ox(P:Program)[Tb P](n:Nat)(ops:List Oper):Nat->List Oper->aA->List Prop->Option (aA×List Oper×List Prop)
 |0,l,L,C=>some (L,l,C)
 |_+1,[],_,_=>none
 |k+1,⟨d,op,_,_,_,g⟩::l,L,C=>cond (bI n d) (match gC ops L g with
  |some true=>(match Bd P L op with
   |some (v,c)=>ox P n ops k l (putK d v L) (c++C)
   |none=>none)
  |some false=>ox P n ops k l (putK d undef L) C
  |none=>none) none
def gL{ops r:List Oper}{K:aA->World->Prop}:∀ (k:Nat) {l:List Oper} {L L':aA} {C C':List Prop},ox P n ops k l L C=some (L',r,C')->All C'->(All C->RT P n ops r K L' w)->All C/\RT P n ops l K L w
 |0,l,L,L',C,C',h,hC,hk=>by simp only[ox,PJ,OY]at h;obtain⟨rfl,rfl,rfl⟩:=h;exact⟨hC,hk hC⟩
 |k+1,[],L,L',C,C',h,hC,hk=>by simp[ox]at h
 |k+1,⟨d,op,ty,pos,af,g⟩::l,L,L',C,C',h,hC,hk=>by
  simp only[ox]at h;cases hb:bI n d with
  |false=>rw[hb]at h;cases h
  |true=>
   rw[hb]at h;simp only[QE]at h;split at h
   ·rename_i hg
    split at h
    ·rename_i v c hv
     have:=gL k h hC (λ hc=>hk (All.app hc).2);have h2:=All.app this.1;exact⟨h2.2,RT.gT (o:=⟨d,op,ty,pos,af,g⟩) hg (RT.ev (o:=⟨d,op,ty,pos,af,none⟩) J hb (Ev.C hv h2.1) this.2)⟩
    ·cases h
   ·rename_i hg
    have:=gL k h hC hk;exact⟨this.1,RT.gF (o:=⟨d,op,ty,pos,af,g⟩) hg hb this.2⟩
   ·cases h
def dM(P:Program)[Tb P](n:Nat)(ops:List Oper)(k:Nat)(l:List Oper)(L:aA):Option (Oper×List Oper×aA×List Prop):=match ox P n ops k l L []with
 |some (L',⟨d,op,ty,pos,af,g⟩::r,C)=>cond (bI n d) (match gC ops L' g with
  |some true=>some (⟨d,op,ty,pos,af,none⟩,r,L',C)
  |_=>none) none
 |_=>none
def cj{ops l r:List Oper}{K:aA->World->Prop}{o:Oper}{k:Nat}{L':aA}{C:List Prop}(h:dM P n ops k l L=some (o,r,L',C))(hC:All C)(hk:bI n o.dst=true->o.guard=none->RT P n ops (o::r) K L' w):RT P n ops l K L w:=by
 unfold dM at h;split at h
 ·rename_i L1 d op ty pos af g r1 C1 hr
  cases hb:bI n d with
  |false=>rw[hb]at h;cases h
  |true=>
   rw[hb]at h;simp only[QE]at h;split at h
   ·rename_i hg
    cases h;exact(gL k hr hC (λ _=>RT.gT (o:=⟨d,op,ty,pos,af,g⟩) hg (hk hb J))).2
   ·cases h
 ·cases h
section
variable {ops l r:List Oper} {K:aA->World->Prop} {L':aA} {C:List Prop}
theorem RT.z(k:Nat)(h:ox P n ops k l L []=some (L',r,C))(hk:RT P n ops r K L' w)(hC:All C:=by(repeat (first|exact trivial|refine⟨by first|rfl|omega|(simp only[IntKind.bits];omega),?_⟩))):RT P n ops l K L w:=(gL k h hC (λ _=>hk)).2
theorem RT.Z(h:ox P n ops l.length l L []=some (L',[],C))(hk:K L' w)(hC:All C:=by(repeat (first|exact trivial|refine⟨by first|rfl|omega|(simp only[IntKind.bits];omega),?_⟩))):RT P n ops l K L w:=(gL _ h hC (λ _=>.nil hk)).2
theorem RT.G{b c:Bool}(t:Nat)(h:look L t=some (.bool b))(hb:b=c)(hk:RT P n ops l K ((t,.bool c)::L) w):RT P n ops l K L w:=by
 subst hb;intro a ha;refine hk a ⟨ha.size,λ u v hv=>?_,ha.defers⟩;rw[ij]at hv;by_cases e:t=u
 ·subst e;rw[Ow J]at hv;cases hv;exact ha.slot _ _ h
 ·rw[OB e]at hv;exact ha.slot _ _ hv
theorem RT.Gt{b:Bool}(t:Nat)(h:look L t=some (.bool b))(hb:b=true)(hk:RT P n ops l K ((t,.bool true)::L) w):RT P n ops l K L w:=RT.G t h hb hk
theorem RT.Gf{b:Bool}(t:Nat)(h:look L t=some (.bool b))(hb:b=false)(hk:RT P n ops l K ((t,.bool false)::L) w):RT P n ops l K L w:=RT.G t h hb hk
theorem RT.B{p:Prop}{dp:Decidable p}(t:Nat)(h:look L t=some (.bool (@decide p dp)))(ht:p->RT P n ops l K ((t,.bool true)::L) w)(hf:¬ p->RT P n ops l K ((t,.bool false)::L) w):RT P n ops l K L w:=by
 by_cases hp:p
 ·exact RT.G t h (OL hp) (ht hp)
 ·exact RT.G t h (KG hp) (hf hp)
def RT.M{p:Prop}{dp:Decidable p}{M:aA}{t:Nat}{b:Bool}(h:(ox P n ops l.length l L [],look L' t)=(some (L',[],C),some (.bool b)))(hb:b= @decide p dp)
  (hw:M.map (λ q=>look L' q.1)=M.map (λ q=>some q.2):=by exact J) (hC:All C:=by(repeat (first|exact trivial|refine⟨by first|rfl|omega|(simp only[IntKind.bits];omega),?_⟩))):RT P n ops l (λ L' w'=>w'=w/\look L' t=some (.bool (@decide p dp))/\Weak M L') L w:=by
 simp only[OY]at h;exact(gL _ h.1 hC (λ _=>.nil ⟨J,hb▸h.2,wk hw⟩)).2
variable {cs:List Chunk} {w0:World}
theorem RT.ld{b o:Nat}{U:TypeId}{cells:List Value}{x:Operand}{T:TypeId}{v:Value}(k:Nat)(hs:Sat w0 cs w)(i:Nat)
  (h:(dM P n ops k l L,aH L' x,cs[i]?,cells[o]?,(Tb.sc P).any (Nat.beq T))=(some (⟨d,.load T x,ty,pos,af,g⟩,r,L',C),some (.pointer (some ⟨b,o,none⟩)),some (aw b U cells),some v,true))
  (hk:RT P n ops r K (putK d v L') w) (hC:All C:=by(repeat (first|exact trivial|refine⟨by first|rfl|omega|(simp only[IntKind.bits];omega),?_⟩))):RT P n ops l K L w:=by
 simp only[OY]at h;obtain⟨h1,h2,h3,h4,h5⟩:=h;refine cj h1 hC λ hd hg=>RT.ev hg hd (.load ?_ h2 (hs.cell h3 h4)) hk;obtain⟨t,ht,he⟩:=Ro.1 h5;have:=Pv he;subst this;exact Pn.1 (Tb.sok (P:=P)) _ ht
theorem RT.lo{b m:Nat}{U:TypeId}{cells:List Value}{x:Operand}{T:TypeId}(k:Nat)(hs:Sat w0 cs w)(i:Nat)
  (h:(dM P n ops k l L,aH L' x,cs[i]?,dq (Tb.ag P) T,cells.length)=(some (⟨d,.load T x,ty,pos,af,g⟩,r,L',C),some (.pointer (some ⟨b,0,none⟩)),some (aw b U cells),some m,m))
  (hk:RT P n ops r K (putK d (.agg cells.toArray) L') w) (hC:All C:=by(repeat (first|exact trivial|refine⟨by first|rfl|omega|(simp only[IntKind.bits];omega),?_⟩))):RT P n ops l K L w:=by
 simp only[OY]at h;obtain⟨h1,h2,h3,h4,h5⟩:=h;exact cj h1 hC λ hd hg=>RT.ev hg hd (.ch (Pn.1 (Tb.gok (P:=P)) _ (dC h4)) h2 hs h3 h5) hk
theorem RT.ln{α:Type}{E:Enc α}{ll:List α}{x:Operand}{v:Value}{t:TypeId}{q:Nat×Nat×Value×Nat}(k:Nat)(hr:RdL w v E ll)
  (h:(dM P n ops k l L,aH L' x,dq (Tb.sl P) t)=(some (⟨d,.call ⟨.builtin .len,#[x],#[t]⟩,ty,pos,af,g⟩,r,L',C),some v,some q))
  (hk:RT P n ops r K (putK d (.int .i64 (ll.length:Int)) L') w) (hC:All C:=by(repeat (first|exact trivial|refine⟨by first|rfl|omega|(simp only[IntKind.bits];omega),?_⟩))):RT P n ops l K L w:=by
 simp only[OY]at h;obtain⟨h1,h2,h3⟩:=h;exact cj h1 hC λ hd hg=>RT.ev hg hd (.iw (nc (Tb.lok (P:=P)) (dC h3)).und h2 hr) hk
theorem RT.c{f:FuncId}{vs:List Value}{Φ:Value->World->Prop}[he:Ent P f]{xs:List Operand}{ats:Array TypeId}(k:Nat)(hc:CallsV P f vs w Φ)
  (h:(dM P n ops k l L,pE L' xs)=(some (⟨d,.call ⟨.value (.func f),xs.toArray,ats⟩,ty,pos,af,g⟩,r,L',C),some vs))
  (hk:∀ v w',Φ v w'->RT P n ops r K (putK d v L') w') (hC:All C:=by(repeat (first|exact trivial|refine⟨by first|rfl|omega|(simp only[IntKind.bits];omega),?_⟩))):RT P n ops l K L w:=by
 simp only[OY]at h;obtain⟨h1,h2⟩:=h;exact cj h1 hC λ hd hg=>RT.FN hg hd (.call he.h h2 (hc.mono hk))
theorem RT.a{o:Oper}{v:Value}(k:Nat)(h:dM P n ops k l L=some (o,r,L',C))(he:Ev P n L' w o v)(hk:RT P n ops r K (putK o.dst v L') w)(hC:All C:=by(repeat (first|exact trivial|refine⟨by first|rfl|omega|(simp only[IntKind.bits];omega),?_⟩))):RT P n ops l K L w:=
 cj h hC λ hd hg=>RT.ev hg hd he hk
def RT.b{o:Oper}(k:Nat)(h:dM P n ops k l L=some (o,r,L',C))(he:OpE P n L' w o λ v w'=>RT P n ops r K (putK o.dst v L') w')(hC:All C:=by(repeat (first|exact trivial|refine⟨by first|rfl|omega|(simp only[IntKind.bits];omega),?_⟩))):RT P n ops l K L w:=
 cj h hC λ hd hg=>RT.FN hg hd he
end
section
variable {N R:aA->World->Prop} {X G:List (Nat×(aA->World->Prop))} {L':aA} {C:List Prop} {y:Code} {id:Nat} {l:List Oper}
theorem CW.Z(h:ox P n l l.length l L []=some (L',[],C))(hk:CW P n y ⟨N,R,X,G⟩ L' w)(hC:All C:=by(repeat (first|exact trivial|refine⟨by first|rfl|omega|(simp only[IntKind.bits];omega),?_⟩))):CW P n (.seq (.region id l.toArray false) y) ⟨N,R,X,G⟩ L w:=.seq<|.region<|(gL _ h hC (λ _=>.nil hk)).2
def CW.U(h:ox P n l l.length l L []=some (L',[],C))(hk:N L' w)(hC:All C:=by(repeat (first|exact trivial|refine⟨by first|rfl|omega|(simp only[IntKind.bits];omega),?_⟩))):CW P n (.region id l.toArray false) ⟨N,R,X,G⟩ L w:=.region<|(gL _ h hC (λ _=>.nil hk)).2
def CW.h(h:RT P n l l (λ L w=>CW P n y ⟨N,R,X,G⟩ L w) L w):CW P n (.seq (.region id l.toArray false) y) ⟨N,R,X,G⟩ L w:=.seq<|.region h
end
end
section
variable {P:Program} [Tb P] {n:Nat} {L:aA} {w:World} {S:World->Prop} {SS:List (World->Prop)} {K:aA->World->Prop} {ops:List Oper}
def jH{o:Oper}{a:Act}(ha:Fits n L a){b:Bool}(h:gC ops L o.guard=some b):Region.wanted o (yielded ops.toArray a.tmps)=b:=by
 cases hg:o.guard with
 |none=>rw[hg]at h;cases h;simp[Region.wanted,hg]
 |some q=>
  obtain⟨j,c⟩:=q;rw[hg]at h;simp only[gC]at h;split at h
  ·cases h
  ·rename_i d hd
   split at h<;>first|(cases h;done)|skip
   ·rename_i hl;simp only[Region.wanted,hg,ha.yielded hd hl];cases c<;>cases h<;>rfl
   ·rename_i hl;simp only[Region.wanted,hg,ha.yielded hd hl];cases c<;>cases h<;>rfl
   ·rename_i hl;cases h;simp only[Region.wanted,hg,ha.x7 hd hl];rfl
theorem RP.gF{i:Nat}{o:Oper}{p:Plan}(ho:ops[i]? =some o)(h:gC ops L o.guard=some false)(hd:bI n o.dst=true)(hS:S w)(hk:RP P n ops (S::SS) p K (putK o.dst undef L) w):RP P n ops (S::SS) (.free i p) K L w:=λ a ha=>
 ⟨o,undef,ho,.inr ⟨jH ha h,J⟩,hS,hk _ (ha.putK hd)⟩
theorem RP.gT{i:Nat}{o:Oper}{v:Value}{p:Plan}(ho:ops[i]? =some o)(h:gC ops L o.guard=some true)(hd:bI n o.dst=true)(he:∀ w',S w'->Ev P n L w' o v)(hS:S w)(hk:RP P n ops (S::SS) p K (putK o.dst v L) w):RP P n ops (S::SS) (.free i p) K L w:=λ a ha=>
 ⟨o,v,ho,.inl ⟨jH ha h,λ w' hw'=>he w' hw' a ha⟩,hS,hk _ (ha.putK hd)⟩
def RP.fF{i:Nat}{o:Oper}{p:Plan}(ho:ops[i]? =some o)(h:gC ops L o.guard=some false)(hd:bI n o.dst=true)(hS:S w)(hk:RP P n ops (S::SS) p K (putK o.dst undef L) w):RP P n ops (S::SS) (.one i p) K L w:=λ a ha=>by
 have ho':ops.toArray[i]? =some o:=by simpa using ho
 show wpOp P ops.toArray (RQ n K) i _ a w;unfold wpOp;simp only[ho',jH ha h];exact⟨S,λ _ h=>h,hS,hk _ (ha.putK hd)⟩
def RP.fT{i:Nat}{o:Oper}{p:Plan}(ho:ops[i]? =some o)(h:gC ops L o.guard=some true)(hd:bI n o.dst=true)(he:OpE P n L w o λ v w'=>S w'/\RP P n ops (S::SS) p K (putK o.dst v L) w'):RP P n ops (S::SS) (.one i p) K L w:=λ a ha=>by
 have ho':ops.toArray[i]? =some o:=by simpa using ho
 show wpOp P ops.toArray (RQ n K) i _ a w;unfold wpOp;simp only[ho',jH ha h,Qa];exact .inl ((OpE.same (R:=λ T v w'=>RP P n ops (T::SS) p K (putK o.dst v L) w') he) a ha _ _ λ v w' ⟨T,h1,h2,h3⟩=>⟨T,h1,h2,h3 _ (ha.putK hd)⟩)
def ke(P:Program)[Tb P](n:Nat)(ops:List Oper):Nat->Plan->aA->List Prop->Option (aA×Plan×List Prop)
 |0,p,L,C=>some (L,p,C)
 |k+1,.free i p,L,C=>(match ops[i]? with
  |some ⟨d,op,_,_,_,g⟩=>cond (bI n d) (match gC ops L g with
   |some true=>(match Bd P L op with
    |some (v,c)=>ke P n ops k p (putK d v L) (c++C)
    |none=>none)
   |some false=>ke P n ops k p (putK d undef L) C
   |none=>none) none
  |none=>none)
 |k+1,.one i p,L,C=>(match ops[i]? with
  |some ⟨d,op,_,_,_,g⟩=>cond (bI n d) (match gC ops L g with
   |some true=>(match Bd P L op with
    |some (v,c)=>ke P n ops k p (putK d v L) (c++C)
    |none=>none)
   |some false=>ke P n ops k p (putK d undef L) C
   |none=>none) none
  |none=>none)
 |_+1,_,_,_=>none
def fK{q:Plan}(hS:S w):∀ (k:Nat) {p:Plan} {L L':aA} {C C':List Prop},ke P n ops k p L C=some (L',q,C')->All C'->(All C->RP P n ops (S::SS) q K L' w)->All C/\RP P n ops (S::SS) p K L w
 |0,p,L,L',C,C',h,hC,hk=>by simp only[ke,PJ,OY]at h;obtain⟨rfl,rfl,rfl⟩:=h;exact⟨hC,hk hC⟩
 |k+1,.free i p,L,L',C,C',h,hC,hk=>by
  simp only[ke]at h;split at h
  ·rename_i d op ty pos af g ho
   cases hb:bI n d with
   |false=>rw[hb]at h;cases h
   |true=>
    rw[hb]at h;simp only[QE]at h;split at h
    ·rename_i hg
     split at h
     ·rename_i v c hv
      have:=fK hS k h hC (λ hc=>hk (All.app hc).2);have h2:=All.app this.1;exact⟨h2.2,RP.gT ho hg hb (λ _ _=>Ev.C hv h2.1) hS this.2⟩
     ·cases h
    ·rename_i hg
     have:=fK hS k h hC hk;exact⟨this.1,RP.gF ho hg hb hS this.2⟩
    ·cases h
  ·cases h
 |k+1,.one i p,L,L',C,C',h,hC,hk=>by
  simp only[ke]at h;split at h
  ·rename_i d op ty pos af g ho
   cases hb:bI n d with
   |false=>rw[hb]at h;cases h
   |true=>
    rw[hb]at h;simp only[QE]at h;split at h
    ·rename_i hg
     split at h
     ·rename_i v c hv
      have:=fK hS k h hC (λ hc=>hk (All.app hc).2);have h2:=All.app this.1;exact⟨h2.2,RP.fT ho hg hb (OpE.ev (Ev.C hv h2.1) ⟨hS,this.2⟩)⟩
     ·cases h
    ·rename_i hg
     have:=fK hS k h hC hk;exact⟨this.1,RP.fF ho hg hb hS this.2⟩
    ·cases h
  ·cases h
 |k+1,.fin,L,L',C,C',h,hC,hk=>by simp[ke]at h
 |k+1,.loose _ _,L,L',C,C',h,hC,hk=>by simp[ke]at h
 |k+1,.bar _ _,L,L',C,C',h,hC,hk=>by simp[ke]at h
 |k+1,.two _ _ _ _,L,L',C,C',h,hC,hk=>by simp[ke]at h
 |k+1,.three _ _ _ _ _ _,L,L',C,C',h,hC,hk=>by simp[ke]at h
def ig(P:Program)[Tb P](n:Nat)(ops:List Oper)(k:Nat)(p:Plan)(L:aA):Option (Bool×Oper×Plan×aA×List Prop):=match ke P n ops k p L []with
 |some (L',.free i q,C)=>(match ops[i]? with
  |some o=>cond (bI n o.dst) (match gC ops L' o.guard with
   |some true=>some (true,o,q,L',C)
   |_=>none) none
  |none=>none)
 |some (L',.one i q,C)=>(match ops[i]? with
  |some o=>cond (bI n o.dst) (match gC ops L' o.guard with
   |some true=>some (false,o,q,L',C)
   |_=>none) none
  |none=>none)
 |_=>none
variable {p q:Plan} {L':aA} {C:List Prop} {o:Oper}
def fk{k:Nat}{v:Value}{bb:Bool}(hS:S w)(h:ig P n ops k p L=some (bb,o,q,L',C))(hC:All C)(he:∀ w',S w'->Ev P n L' w' o v)(hk:RP P n ops (S::SS) q K (putK o.dst v L') w):RP P n ops (S::SS) p K L w:=by
 unfold ig at h;split at h
 ·rename_i L1 i q1 C1 hr
  split at h
  ·rename_i o1 ho
   cases hb:bI n o1.dst with
   |false=>rw[hb]at h;cases h
   |true=>
    rw[hb]at h;simp only[QE]at h;split at h
    ·rename_i hg
     cases h;exact(fK hS k hr hC (λ _=>RP.gT ho hg hb he hS hk)).2
    ·cases h
  ·cases h
 ·rename_i L1 i q1 C1 hr
  split at h
  ·rename_i o1 ho
   cases hb:bI n o1.dst with
   |false=>rw[hb]at h;cases h
   |true=>
    rw[hb]at h;simp only[QE]at h;split at h
    ·rename_i hg
     cases h;exact(fK hS k hr hC (λ _=>RP.fT ho hg hb (OpE.ev (he w hS) ⟨hS,hk⟩))).2
    ·cases h
  ·cases h
 ·cases h
def Be{k:Nat}(hS:S w)(h:ig P n ops k p L=some (false,o,q,L',C))(hC:All C)(he:OpE P n L' w o λ v w'=>S w'/\RP P n ops (S::SS) q K (putK o.dst v L') w'):RP P n ops (S::SS) p K L w:=by
 unfold ig at h;split at h
 ·split at h
  ·rename_i o1 ho
   cases hb:bI n o1.dst with
   |false=>rw[hb]at h;cases h
   |true=>
    rw[hb]at h;simp only[QE]at h;split at h<;>cases h
  ·cases h
 ·rename_i L1 i q1 C1 hr
  split at h
  ·rename_i o1 ho
   cases hb:bI n o1.dst with
   |false=>rw[hb]at h;cases h
   |true=>
    rw[hb]at h;simp only[QE]at h;split at h
    ·rename_i hg
     cases h;exact(fK hS k hr hC (λ _=>RP.fT ho hg hb he)).2
    ·cases h
  ·cases h
 ·cases h
theorem RP.z(k:Nat)(hS:S w)(h:ke P n ops k p L []=some (L',q,C))(hk:RP P n ops (S::SS) q K L' w)(hC:All C:=by(repeat (first|exact trivial|refine⟨by first|rfl|omega|(simp only[IntKind.bits];omega),?_⟩))):RP P n ops (S::SS) p K L w:=(fK hS k h hC (λ _=>hk)).2
theorem RP.Z(hS:S w)(h:ke P n ops p.depth p L []=some (L',.fin,C))(hk:K L' w)(hC:All C:=by(repeat (first|exact trivial|refine⟨by first|rfl|omega|(simp only[IntKind.bits];omega),?_⟩))):RP P n ops (S::SS) p K L w:=(fK hS _ h hC (λ _=>.fin hk)).2
theorem RP.G{b c:Bool}(t:Nat)(h:look L t=some (.bool b))(hb:b=c)(hk:RP P n ops (S::SS) p K ((t,.bool c)::L) w):RP P n ops (S::SS) p K L w:=by
 subst hb;intro a ha;refine hk a ⟨ha.size,λ u v hv=>?_,ha.defers⟩;rw[ij]at hv;by_cases e:t=u
 ·subst e;rw[Ow J]at hv;cases hv;exact ha.slot _ _ h
 ·rw[OB e]at hv;exact ha.slot _ _ hv
theorem RP.Gt{b:Bool}(t:Nat)(h:look L t=some (.bool b))(hb:b=true)(hk:RP P n ops (S::SS) p K ((t,.bool true)::L) w):RP P n ops (S::SS) p K L w:=RP.G t h hb hk
theorem RP.Gf{b:Bool}(t:Nat)(h:look L t=some (.bool b))(hb:b=false)(hk:RP P n ops (S::SS) p K ((t,.bool false)::L) w):RP P n ops (S::SS) p K L w:=RP.G t h hb hk
theorem RP.B{φ:Prop}{dp:Decidable φ}(t:Nat)(h:look L t=some (.bool (@decide φ dp)))(ht:φ->RP P n ops (S::SS) p K ((t,.bool true)::L) w)(hf:¬ φ->RP P n ops (S::SS) p K ((t,.bool false)::L) w):RP P n ops (S::SS) p K L w:=by
 by_cases hp:φ
 ·exact RP.G t h (OL hp) (ht hp)
 ·exact RP.G t h (KG hp) (hf hp)
variable {cs:List Chunk} {w0:World} {bb:Bool} {d:Option Nat} {ty:TypeId} {pos:String} {af:Array Edge} {g:Option (Nat×Bool)}
theorem RP.ld{b o:Nat}{U:TypeId}{cells:List Value}{x:Operand}{T:TypeId}{v:Value}(k:Nat)(hS:Sat w0 cs w)(i:Nat)
  (h:(ig P n ops k p L,aH L' x,cs[i]?,cells[o]?,(Tb.sc P).any (Nat.beq T))=(some (bb,⟨d,.load T x,ty,pos,af,g⟩,q,L',C),some (.pointer (some ⟨b,o,none⟩)),some (aw b U cells),some v,true))
  (hk:RP P n ops ((λ w'=>Sat w0 cs w')::SS) q K (putK d v L') w) (hC:All C:=by(repeat (first|exact trivial|refine⟨by first|rfl|omega|(simp only[IntKind.bits];omega),?_⟩))):RP P n ops ((λ w'=>Sat w0 cs w')::SS) p K L w:=by
 simp only[OY]at h;obtain⟨h1,h2,h3,h4,h5⟩:=h;refine fk (S:=λ w'=>Sat w0 cs w') hS h1 hC (λ w' hs=>.load ?_ h2 (Sat.cell hs h3 h4)) hk;obtain⟨t,ht,he⟩:=Ro.1 h5;have:=Pv he;subst this;exact Pn.1 (Tb.sok (P:=P)) _ ht
theorem RP.c{f:FuncId}{vs:List Value}{Φ:Value->World->Prop}[he:Ent P f]{xs:List Operand}{ats:Array TypeId}(k:Nat)(hS:S w)(hc:CallsV P f vs w Φ)
  (h:(ig P n ops k p L,pE L' xs)=(some (false,⟨d,.call ⟨.value (.func f),xs.toArray,ats⟩,ty,pos,af,g⟩,q,L',C),some vs))
  (hk:∀ v w',Φ v w'->S w'/\RP P n ops (S::SS) q K (putK d v L') w') (hC:All C:=by(repeat (first|exact trivial|refine⟨by first|rfl|omega|(simp only[IntKind.bits];omega),?_⟩))):RP P n ops (S::SS) p K L w:=by
 simp only[OY]at h;obtain⟨h1,h2⟩:=h;exact Be hS h1 hC (.call he.h h2 (hc.mono hk))
theorem RP.a{v:Value}(k:Nat)(hS:S w)(h:ig P n ops k p L=some (bb,o,q,L',C))(he:∀ w',S w'->Ev P n L' w' o v)(hk:RP P n ops (S::SS) q K (putK o.dst v L') w)(hC:All C:=by(repeat (first|exact trivial|refine⟨by first|rfl|omega|(simp only[IntKind.bits];omega),?_⟩))):RP P n ops (S::SS) p K L w:=fk hS h hC he hk
end
abbrev Sat.L{w0 w:World}{cs:List Chunk}(_:Sat w0 cs w):List Chunk:=cs
def JI:List Chunk->List (Nat×Chunk)->List Chunk
 |cs,[]=>cs
 |cs,(i,c)::r=>JI (cs.set i c) r
abbrev Sat.U{w0 w:World}{cs:List Chunk}(_:Sat w0 cs w)(u:List (Nat×Chunk)):List Chunk:=JI cs u
abbrev Sat.V{w0 w:World}{A cs:List Chunk}(_:Sat w0 (A++cs) w)(u:List (Nat×Chunk)):List Chunk:=JI A u
section
variable {P:Program} {n:Nat} {N R:aA->World->Prop} {X G:List (Nat×(aA->World->Prop))} {L L0:aA} {w:World}
def CW.lp{c:Code}{α:Type}(ts:List Nat)(h:lV ts L=some L0)(K:α->aA)(I:α->World->Prop)(μ:α->Nat)(x₀:α)(h0:Weak (K x₀++L0) L)(hI:I x₀ w)
  (round:∀ x w,I x w->CW P n c ⟨λ L' w'=>∃ x',Weak (K x'++L0) L'/\I x' w'/\μ x'<μ x,R,X,G⟩ (K x++L0) w):CW P n (.loop c) ⟨N,R,X,G⟩ L w:=CW.loop (λ x=>K x++L0) I μ x₀ h0 hI round
def CW.jn{x y:Code}(ts:List Nat)(h:lV ts L=some L0)(M:aA->aA->World->Prop)(h1:CW P n x ⟨M L0,R,X,G⟩ L w)(h2:∀ L' w',M L0 L' w'->CW P n y ⟨N,R,X,G⟩ L' w'):CW P n (.seq x y) ⟨N,R,X,G⟩ L w:=CW.yr (M L0) h1 h2
def CW.md{c:Code}(ts:List Nat)(h:lV ts L=some L0)(M:aA->aA->World->Prop)(h1:CW P n c ⟨M L0,R,X,G⟩ L w)(h2:∀ L' w',M L0 L' w'->N L' w'):CW P n c ⟨N,R,X,G⟩ L w:=CW.oQ (M L0) h1 h2
end
section
variable {P:Program} [Tb P] {n:Nat} {L L':aA} {w w0:World} {d:Option Nat} {ty:TypeId} {pos:String} {af:Array Edge} {g:Option (Nat×Bool)} {ops l r:List Oper} {K:aA->World->Prop} {C:List Prop} {cs:List Chunk}
variable {α:Type} {E:Enc α} {ll:List α} {v u:Value} {x i:Operand} {j:Nat} {a:α} {t e b:Nat} {z:Value} {T:TypeId} {kk:IntKind}
def Gk(h:(Tb.sc P).any (Nat.beq T)=true):jh P T=true:=by
 obtain⟨t,ht,he⟩:=Ro.1 h;have:=Pv he;subst this;exact Pn.1 (Tb.sok (P:=P)) _ ht
def JJ{m:Nat}(h:dq (Tb.ag P) T=some m):db P T m=true:=Pn.1 (Tb.gok (P:=P)) _ (dC h)
def D2{s:Nat}(h:dq (Tb.sl P) t=some (e,s,z,b)):SlTy P t e s z b:=nc (Tb.lok (P:=P)) (dC h)
theorem RT.ix(k:Nat)(hr:RdL w v E ll)(h:(dM P n ops k l L,aH L' x,nV L' i,dq (Tb.sl P) t)=(some (⟨d,.indexAddr t x i,ty,pos,af,g⟩,r,L',C),some v,some (kk,j),some (e,E.s,z,b)))
  (hk:RT P n ops r K (putK d (br v (j*E.s)) L') w) (hj:j<ll.length:=by omega) (hC:All C:=by(repeat (first|exact trivial|refine⟨by first|rfl|omega|(simp only[IntKind.bits];omega),?_⟩))):RT P n ops l K L w:=by
 simp only[OY]at h;obtain⟨h1,h2,h3,h4⟩:=h;exact cj h1 hC λ hd hg=>RT.ev hg hd (.fV (D2 h4) h2 (uL h3) hr hj) hk
theorem RT.le(k:Nat)(hr:RdL w v E ll)(ha:ll[j]? =some a)(h:(dM P n ops k l L,aH L' x,(Tb.sc P).any (Nat.beq T),(E.enc a)[0]?,Nat.blt 0 E.s)=(some (⟨d,.load T x,ty,pos,af,g⟩,r,L',C),some (br v (j*E.s)),true,some u,true))
  (hk:RT P n ops r K (putK d u L') w) (hC:All C:=by(repeat (first|exact trivial|refine⟨by first|rfl|omega|(simp only[IntKind.bits];omega),?_⟩))):RT P n ops l K L w:=by
 simp only[OY]at h;obtain⟨h1,h2,h3,h4,h5⟩:=h;exact cj h1 hC λ hd hg=>RT.ev hg hd (.O1 (Gk h3) h2 hr ha (Pk h5) h4) hk
theorem RT.lf{off:Nat}(k:Nat)(hr:RdL w v E ll)(ha:ll[j]? =some a)(h:(dM P n ops k l L,aH L' x,(Tb.sc P).any (Nat.beq T),(E.enc a)[off]?,Nat.blt off E.s)=(some (⟨d,.load T x,ty,pos,af,g⟩,r,L',C),some (br v (j*E.s+off)),true,some u,true))
  (hk:RT P n ops r K (putK d u L') w) (hC:All C:=by(repeat (first|exact trivial|refine⟨by first|rfl|omega|(simp only[IntKind.bits];omega),?_⟩))):RT P n ops l K L w:=by
 simp only[OY]at h;obtain⟨h1,h2,h3,h4,h5⟩:=h;exact cj h1 hC λ hd hg=>RT.ev hg hd (.MQ (Gk h3) h2 hr ha (Pk h5) h4) hk
theorem RT.lg(k:Nat)(hr:RdL w v E ll)(ha:ll[j]? =some a)(h:(dM P n ops k l L,aH L' x,dq (Tb.ag P) T,Nat.blt 0 E.s)=(some (⟨d,.load T x,ty,pos,af,g⟩,r,L',C),some (br v (j*E.s)),some E.s,true))
  (hk:RT P n ops r K (putK d (E.ag a) L') w) (hC:All C:=by(repeat (first|exact trivial|refine⟨by first|rfl|omega|(simp only[IntKind.bits];omega),?_⟩))):RT P n ops l K L w:=by
 simp only[OY]at h;obtain⟨h1,h2,h3,h5⟩:=h;exact cj h1 hC λ hd hg=>RT.ev hg hd (.Jf (JJ h3) h2 hr ha (Pk h5)) hk
theorem RT.fl{f off:Nat}{fs:List Nat}(k:Nat)(hr:RdL w v E ll)(h:(dM P n ops k l L,aH L' x,dq (Tb.fl P) T,fs[f]?,Nat.blt 0 E.s)=(some (⟨d,.fieldAddr T x f,ty,pos,af,g⟩,r,L',C),some (br v (j*E.s)),some fs,some off,true))
  (hk:RT P n ops r K (putK d (br v (j*E.s+off)) L') w) (hj:j<ll.length:=by omega) (hC:All C:=by(repeat (first|exact trivial|refine⟨by first|rfl|omega|(simp only[IntKind.bits];omega),?_⟩))):RT P n ops l K L w:=by
 simp only[OY]at h;obtain⟨h1,h2,h3,h4,h5⟩:=h;exact cj h1 hC λ hd hg=>RT.ev hg hd (.MH (Tb.N9 h3 h4) h2 hr hj (Pk h5)) hk
def RT.bx(k:Nat)(hs:Sat w0 cs w)(h:(dM P n ops k l L,aH L' x)=(some (⟨d,.box T x,ty,pos,af,g⟩,r,L',C),some v))
  (hk:∀ b w',Sat w0 (cs++[aw b T v.cells.toList]) w'->Chg [] w w'->w.heap.size<=b->RT P n ops r K (putK d (.pointer (some ⟨b,0,none⟩)) L') w') (hC:All C:=by(repeat (first|exact trivial|refine⟨by first|rfl|omega|(simp only[IntKind.bits];omega),?_⟩))):RT P n ops l K L w:=by
 simp only[OY]at h;obtain⟨h1,h2⟩:=h;exact cj h1 hC λ hd hg=>RT.FN hg hd (.box hs h2 hk)
def RT.al(k:Nat)(hs:Sat w0 cs w)(h:(dM P n ops k l L,dq (Tb.zr P) T)=(some (⟨d,.alloc T,ty,pos,af,g⟩,r,L',C),some z))
  (hk:∀ b w',Sat w0 (cs++[aw b T z.cells.toList]) w'->Chg [] w w'->w.heap.size<=b->RT P n ops r K (putK d (.pointer (some ⟨b,0,none⟩)) L') w') (hC:All C:=by(repeat (first|exact trivial|refine⟨by first|rfl|omega|(simp only[IntKind.bits];omega),?_⟩))):RT P n ops l K L w:=by
 simp only[OY]at h;obtain⟨h1,h2⟩:=h;exact cj h1 hC λ hd hg=>RT.FN hg hd (.alloc hs (rH (Tb.zok (P:=P)) (dC h2)) hk)
def oneOf(h:(Tb.sc P).any (Nat.beq T)=true):(P.info? T).map (·.size)=some 1:=by
 obtain⟨t,ht,he⟩:=Ro.1 h;have:=Pv he;subst this;exact Bc (Pn.1 (Tb.ook (P:=P)) _ ht)
variable {y:Operand} {U:TypeId} {cells vs:List Value} {u0:Value} {bb:Nat}
def RT.st(k:Nat)(hs:Sat w0 cs w)(i:Nat)(h:(dM P n ops k l L,aH L' x,aH L' y,cs[i]?,cells[j]?,(Tb.sc P).any (Nat.beq T))=(some (⟨d,.store T x y,ty,pos,af,g⟩,r,L',C),some (.pointer (some ⟨bb,j,none⟩)),some v,some (aw bb U cells),some u0,true))
  (hk:∀ w',Sat w0 (cs.set i (aw bb U (cells.set j v))) w'->Chg [bb] w w'->RT P n ops r K (putK d undef L') w') (h1:v.oneCell'=true:=by exact J) (hC:All C:=by(repeat (first|exact trivial|refine⟨by first|rfl|omega|(simp only[IntKind.bits];omega),?_⟩))):RT P n ops l K L w:=by
 simp only[OY]at h;obtain⟨q1,q2,q3,q4,q5,q6⟩:=h;exact cj q1 hC λ hd hg=>RT.FN hg hd (.bu (oneOf q6) hs q4 q2 q3 h1 q5 hk)
def RT.sa{m:Nat}(k:Nat)(hs:Sat w0 cs w)(i:Nat)(h:(dM P n ops k l L,aH L' x,aH L' y,cs[i]?,dq (Tb.ag P) T,vs.length,cells.length)=(some (⟨d,.store T x y,ty,pos,af,g⟩,r,L',C),some (.pointer (some ⟨bb,0,none⟩)),some (.agg vs.toArray),some (aw bb U cells),some m,m,m))
  (h1:∀ v∈vs,v.oneCell'=true) (hk:∀ w',Sat w0 (cs.set i (aw bb U vs)) w'->Chg [bb] w w'->RT P n ops r K (putK d undef L') w') (hC:All C:=by(repeat (first|exact trivial|refine⟨by first|rfl|omega|(simp only[IntKind.bits];omega),?_⟩))):RT P n ops l K L w:=by
 simp only[OY]at h;obtain⟨q1,q2,q3,q4,q5,q6,q7⟩:=h;exact cj q1 hC λ hd hg=>RT.FN hg hd (.aQ (q6▸JJ q5) hs q4 (q6.trans q7.symm) q2 q3 h1 hk)
def RT.ap{m:List α}{tx:TypeId}{q:Nat×Nat×Value×Nat}(k:Nat)(hs:Sat w0 cs w)(i:Nat)(hr:RdL w u E m)(h:(dM P n ops k l L,aH L' x,aH L' y,cs[i]?,dq (Tb.sl P) t,dq (Tb.sl P) tx)=(some (⟨d,.call ⟨.builtin .append,#[x,y],#[t,tx]⟩,ty,pos,af,g⟩,r,L',C),some v,some u,some (cL v e E ll),some (e,E.s,z,b),some q))
  (hk:∀ v' w',Sat w0 (cs.set i (cL v' e E (ll++m))) w'->Chg (bz v) w w'->RT P n ops r K (putK d v' L') w') (h1:ll.length+m.length<=9223372036854775807:=by first|omega|(simp;omega)) (h2:(ll.length+m.length)*b<=140737488355328:=by first|omega|(simp;omega)) (hC:All C:=by(repeat (first|exact trivial|refine⟨by first|rfl|omega|(simp only[IntKind.bits];omega),?_⟩))):RT P n ops l K L w:=by
 simp only[OY]at h;obtain⟨q1,q2,q3,q4,q5,q6⟩:=h;exact cj q1 hC λ hd hg=>RT.FN hg hd (.ai i (D2 q5) hs q4 q2 q3 (D2 (e:=q.1) (s:=q.2.1) (z:=q.2.2.1) (b:=q.2.2.2) q6).und hr h1 h2 hk)
end
section
variable {P:Program} [Tb P] {n:Nat} {L L':aA} {w w0:World} {S:World->Prop} {SS:List (World->Prop)} {d:Option Nat} {ty:TypeId} {pos:String} {af:Array Edge} {g:Option (Nat×Bool)} {ops:List Oper} {p q:Plan} {K:aA->World->Prop} {C:List Prop} {bb:Bool}
variable {α:Type} {E:Enc α} {ll:List α} {v u:Value} {x i:Operand} {j:Nat} {a:α} {t e b:Nat} {z:Value} {T:TypeId} {kk:IntKind}
theorem RP.ln{f:Nat×Nat×Value×Nat}(k:Nat)(hS:S w)(hr:∀ {w'},S w'->RdL w' v E ll)(h:(ig P n ops k p L,aH L' x,dq (Tb.sl P) t)=(some (bb,⟨d,.call ⟨.builtin .len,#[x],#[t]⟩,ty,pos,af,g⟩,q,L',C),some v,some f))
  (hk:RP P n ops (S::SS) q K (putK d (.int .i64 (ll.length:Int)) L') w) (hC:All C:=by(repeat (first|exact trivial|refine⟨by first|rfl|omega|(simp only[IntKind.bits];omega),?_⟩))):RP P n ops (S::SS) p K L w:=by
 simp only[OY]at h;obtain⟨h1,h2,h3⟩:=h;exact fk hS h1 hC (λ w' s=>.iw (D2 (e:=f.1) (s:=f.2.1) (z:=f.2.2.1) (b:=f.2.2.2) h3).und h2 (hr s)) hk
theorem RP.ix(k:Nat)(hS:S w)(hr:∀ {w'},S w'->RdL w' v E ll)(h:(ig P n ops k p L,aH L' x,nV L' i,dq (Tb.sl P) t)=(some (bb,⟨d,.indexAddr t x i,ty,pos,af,g⟩,q,L',C),some v,some (kk,j),some (e,E.s,z,b)))
  (hk:RP P n ops (S::SS) q K (putK d (br v (j*E.s)) L') w) (hj:j<ll.length:=by omega) (hC:All C:=by(repeat (first|exact trivial|refine⟨by first|rfl|omega|(simp only[IntKind.bits];omega),?_⟩))):RP P n ops (S::SS) p K L w:=by
 simp only[OY]at h;obtain⟨h1,h2,h3,h4⟩:=h;exact fk hS h1 hC (λ w' s=>.fV (D2 h4) h2 (uL h3) (hr s) hj) hk
theorem RP.le(k:Nat)(hS:S w)(hr:∀ {w'},S w'->RdL w' v E ll)(ha:ll[j]? =some a)(h:(ig P n ops k p L,aH L' x,(Tb.sc P).any (Nat.beq T),(E.enc a)[0]?,Nat.blt 0 E.s)=(some (bb,⟨d,.load T x,ty,pos,af,g⟩,q,L',C),some (br v (j*E.s)),true,some u,true))
  (hk:RP P n ops (S::SS) q K (putK d u L') w) (hC:All C:=by(repeat (first|exact trivial|refine⟨by first|rfl|omega|(simp only[IntKind.bits];omega),?_⟩))):RP P n ops (S::SS) p K L w:=by
 simp only[OY]at h;obtain⟨h1,h2,h3,h4,h5⟩:=h;exact fk hS h1 hC (λ w' s=>.O1 (Gk h3) h2 (hr s) ha (Pk h5) h4) hk
theorem RP.lf{off:Nat}(k:Nat)(hS:S w)(hr:∀ {w'},S w'->RdL w' v E ll)(ha:ll[j]? =some a)(h:(ig P n ops k p L,aH L' x,(Tb.sc P).any (Nat.beq T),(E.enc a)[off]?,Nat.blt off E.s)=(some (bb,⟨d,.load T x,ty,pos,af,g⟩,q,L',C),some (br v (j*E.s+off)),true,some u,true))
  (hk:RP P n ops (S::SS) q K (putK d u L') w) (hC:All C:=by(repeat (first|exact trivial|refine⟨by first|rfl|omega|(simp only[IntKind.bits];omega),?_⟩))):RP P n ops (S::SS) p K L w:=by
 simp only[OY]at h;obtain⟨h1,h2,h3,h4,h5⟩:=h;exact fk hS h1 hC (λ w' s=>.MQ (Gk h3) h2 (hr s) ha (Pk h5) h4) hk
theorem RP.lg(k:Nat)(hS:S w)(hr:∀ {w'},S w'->RdL w' v E ll)(ha:ll[j]? =some a)(h:(ig P n ops k p L,aH L' x,dq (Tb.ag P) T,Nat.blt 0 E.s)=(some (bb,⟨d,.load T x,ty,pos,af,g⟩,q,L',C),some (br v (j*E.s)),some E.s,true))
  (hk:RP P n ops (S::SS) q K (putK d (E.ag a) L') w) (hC:All C:=by(repeat (first|exact trivial|refine⟨by first|rfl|omega|(simp only[IntKind.bits];omega),?_⟩))):RP P n ops (S::SS) p K L w:=by
 simp only[OY]at h;obtain⟨h1,h2,h3,h5⟩:=h;exact fk hS h1 hC (λ w' s=>.Jf (JJ h3) h2 (hr s) ha (Pk h5)) hk
theorem RP.fl{f off:Nat}{fs:List Nat}(k:Nat)(hS:S w)(hr:∀ {w'},S w'->RdL w' v E ll)(h:(ig P n ops k p L,aH L' x,dq (Tb.fl P) T,fs[f]?,Nat.blt 0 E.s)=(some (bb,⟨d,.fieldAddr T x f,ty,pos,af,g⟩,q,L',C),some (br v (j*E.s)),some fs,some off,true))
  (hk:RP P n ops (S::SS) q K (putK d (br v (j*E.s+off)) L') w) (hj:j<ll.length:=by omega) (hC:All C:=by(repeat (first|exact trivial|refine⟨by first|rfl|omega|(simp only[IntKind.bits];omega),?_⟩))):RP P n ops (S::SS) p K L w:=by
 simp only[OY]at h;obtain⟨h1,h2,h3,h4,h5⟩:=h;exact fk hS h1 hC (λ w' s=>.MH (Tb.N9 h3 h4) h2 (hr s) hj (Pk h5)) hk
end
end Go.Kw
namespace Go.Kw
def dD(F:List Nat)(Q:World->Prop):Chunk where
 foot:=F
 holds w:=∀ w',(∀ k∈F,w'.heap[k]? =w.heap[k]?)->Q w'
 stable w w' h hc:=λ w'' hk=>hc w'' λ k hm=>(hk k hm).trans (h k hm)
theorem Sat.aL{w0 w:World}{cs:List Chunk}(h:Sat w0 cs w)(i:Nat){F:List Nat}{Q:World->Prop}(hi:cs[i]? =some (dD F Q)):Q w:=h.get hi w λ _ _=>J
def Hs(cs:List Chunk)(w:World):Prop:=∀ c∈cs,c.holds w
theorem Hs.get{cs:List Chunk}{w:World}(h:Hs cs w){i:Nat}{c:Chunk}(hi:cs[i]? =some c):c.holds w:=h c (OD hi)
theorem Hs.aL{w:World}{cs:List Chunk}(h:Hs cs w)(i:Nat){F:List Nat}{Q:World->Prop}(hi:cs[i]? =some (dD F Q)):Q w:=h.get hi w λ _ _=>J
theorem Hs.aa{α:Type}{w:World}{cs:List Chunk}(h:Hs cs w){e:Nat}{v:Value}{E:Enc α}{l:List α}(i:Nat)(hi:cs[i]? =some (cL v e E l)):RdL w v E l:=Rd.nT (h.get hi)
theorem Hs.bP{α:Type}{w:World}{cs:List Chunk}(h:Hs cs w){e:Nat}{E:Enc α}{ps:List (SV×List α)}(i:Nat)(hi:cs[i]? =some (cv e E ps)):∀ p∈ps,RdL w p.1.val E p.2:=λ p hp=>
 Rd.nT ((h.get hi).1 (cL p.1.val e E p.2) (Pj hp))
def Sat.MJ{w0 w:World}{A B:List Chunk}{Q:World->Prop}(h:Sat w0 (A++B) w)(hq:∀ w',Hs A w'->Q w'):∃ F,Sat w0 (dD F Q::B) w:=by
 refine⟨A.flatMap (·.foot),h.old,λ c hc=>?_,?_⟩
 ·rcases LD.1 hc with rfl|hc
  ·refine⟨λ w' hk=>hq w' λ c hc=>c.stable w w' (λ k hm=>hk k (Q9.2 ⟨c,hc,hm⟩)) (h.holds c (PO _ hc)).1,λ k hk=>?_⟩;obtain⟨c,hc,hm⟩:=Q9.1 hk;exact(h.holds c (PO _ hc)).2 k hm
  ·exact h.holds c (Qo _ hc)
 ·obtain⟨_,h2,h3⟩:=PQ.1 h.apart;refine P2.2 ⟨λ d hd k hk=>?_,h2⟩;obtain⟨c,hc,hm⟩:=Q9.1 hk;exact h3 c hc d hd k hm
def Sat.cn{w0 w:World}{cs:List Chunk}{Q:World->Prop}(n:Nat)(h:Sat w0 cs w)(hq:∀ w',Hs (cs.take n) w'->Q w'):∃ F,Sat w0 (dD F Q::cs.drop n) w:=
 Sat.MJ (A:=cs.take n) (B:=cs.drop n) (by rw[P0];exact h) hq
def Ev.Lp{P:Program}{n:Nat}{L:aA}{w:World}{d:Option Nat}{ty:TypeId}{pos:String}{af:Array Edge}{g:Option (Nat×Bool)}{x:Operand}{T:TypeId}{f off c m:Nat}{v:Value}(hf:qW P T f off=true)(hx:aH L x=some (br v c))(h:LQ v m)(hm:0<m):
  Ev P n L w ⟨d,.fieldAddr T x f,ty,pos,af,g⟩ (br v (c+off)):=by
 obtain⟨a,cap,rfl,ha⟩:=h;obtain⟨bb,o,rfl⟩:=ha hm;have e1:br (.slice (some ⟨bb,o,none⟩) m cap) c= .pointer (some ⟨bb,o+c,none⟩):=by simp only[br,Ph]
 have e2:br (.slice (some ⟨bb,o,none⟩) m cap) (c+off)= .pointer (some ⟨bb,o+c+off,none⟩):=by simp only[br,Ph,Qi]
 rw[e2];rw[e1]at hx;exact Ev.fieldAddr hf hx J
def Sat.bU{w0 w:World}{cs:List Chunk}{Q:World->Prop}(h:Sat w0 cs w)(hq:∀ w',Q w'):Sat w0 (dD [] Q::cs) w:=by
 refine⟨h.old,λ c hc=>?_,P2.2 ⟨(λ d _ k hk=>by cases hk),h.apart⟩⟩;rcases LD.1 hc with rfl|hc
 ·exact⟨λ w' _=>hq w',(λ k hk=>by cases hk)⟩
 ·exact h.holds c hc
def Sat.N5{w0 w:World}{A B cs L:List Chunk}(h:Sat w0 ((A++cs)++B) w)(hp:uf (A++B)=some L):Sat w0 (L++cs) w:=by rw[jg _ _ hp];exact h.oQ
def Sat.O7{w0 w:World}{A cs L:List Chunk}{i:Nat}{c:Chunk}(h:Sat w0 ((A++cs).set i c) w)(hi:Nat.blt i A.length=true)(hp:uf (A.set i c)=some L):Sat w0 (L++cs) w:=by
 rw[jg _ _ hp];rw[Sw _ _ (by simpa[Nat.blt_eq]using hi)]at h;exact h
def D3:List Chunk->Nat->Option Chunk
 |c::_,0=>some c
 |_::cs,k+1=>D3 cs k
 |[],_=>none
def xG:List Nat->List Chunk->Option (List Chunk)
 |[],_=>some []
 |i::is,A=>match D3 A i with
  |some c=>match xG is A with
   |some l=>some (c::l)
   |none=>none
  |none=>none
def yL:∀ (A:List Chunk) (i:Nat) (c:Chunk),D3 A i=some c->A.getD i oD=c
 |_::_,0,c,h=>by simp only[D3,PJ]at h;simpa using h
 |_::cs,k+1,c,h=>by have:=yL cs k c h;simpa using this
 |[],_,c,h=>by simp[D3]at h
def yM:∀ (is:List Nat) (A L:List Chunk),xG is A=some L->L=is.map (λ i=>A.getD i oD)
 |[],_,L,h=>by simp only[xG,PJ]at h;exact h.symm
 |i::is,A,L,h=>by
  simp only[xG]at h;split at h
  ·rename_i c hc
   split at h
   ·rename_i l hl
    cases h;rw[P5,<-yM is A l hl,yL A i c hc]
   ·cases h
  ·cases h
def Sat.N1{w0 w:World}{A cs L:List Chunk}(idx:List Nat)(hp:idx.isPerm (List.range idx.length)=true)(h:Sat w0 (A++cs) w)(hl:A.length=idx.length)(hq:xG idx A=some L):Sat w0 (L++cs) w:=by
 rw[yM _ _ _ hq];exact Sat.order idx hp h hl
def Sat.O0{w0 w:World}{A cs L M:List Chunk}(k:Nat)(h:Sat w0 (A++cs) w)(h1:uf (A.take k)=some L)(h2:uf (A.drop k)=some M):Sat w0 (L++(M++cs)) w:=by
 rw[jg _ _ h1,jg _ _ h2];exact h.cut k
theorem Sat.jG{w0 w:World}{A cs L:List Chunk}(h:Sat w0 (A++cs) w)(is:List Nat)(hp:fo is 0 A=some L):Sat w0 (L++cs) w:=h.sub ((jL _ _ _ _ hp).append (Sd cs))
def Sat.ky{w0 w:World}{A cs T D:List Chunk}{Q:World->Prop}(n:Nat)(h:Sat w0 (A++cs) w)(h1:uf (A.take n)=some T)(h2:uf (A.drop n)=some D)(hq:∀ w',Hs T w'->Q w'):∃ F,Sat w0 ((dD F Q::D)++cs) w:=
 Sat.MJ (A:=T) (B:=D++cs) (by rw[jg _ _ h1,jg _ _ h2];exact h.cut n) hq
def Sat.ue{w0 w:World}{A cs:List Chunk}{Q:World->Prop}(h:Sat w0 (A++cs) w)(hq:∀ w',Q w'):Sat w0 ((dD [] Q::A)++cs) w:=Sat.bU h hq
def CW.yp{P:Program}{n:Nat}{N R:aA->World->Prop}{X G:List (Nat×(aA->World->Prop))}{L:aA}{w w0 w1:World}{A A1 A2 cs:List Chunk}{id:Nat}{l:List Oper}(is ks:List Nat)(_hs:Sat w0 (A++cs) w1)(_h1:fo is 0 A=some A1)(h2:fo ks 0 A1=some A2)(b:Nat)(p:Plan)(hm:P.follows .mixedOrders=true)(hok:p.wY l b=true)
  (h:RP P n l [λ w'=>Sat w0 (A1++cs) w',λ w'=>Sat w0 (A2++cs) w'] p N L w.drew):CW P n (.region id l.toArray true) ⟨N,R,X,G⟩ L w:=CW.Jg (λ w'=>Sat w0 (A1++cs) w') (λ w'=>Sat w0 (A2++cs) w') b p (λ w' h=>h.jG ks h2) hm hok h
def jb{P:Program}{n:Nat}{ops:List Oper}{K:aA->World->Prop}{L:aA}{w w0:World}{SS:List (World->Prop)}{p:Plan}{A B cs:List Chunk}(is:List Nat)(h2:Sat w0 (B++cs) w)(hp:fo is 0 B=some A)(h:RP P n ops ((λ u=>Sat w0 (B++cs) u)::SS) p K L w):
  ∃ T:World->Prop,(∀ u,T u->(λ u=>Sat w0 (A++cs) u) u)/\T w/\RP P n ops (T::SS) p K L w:=⟨_,λ _ h=>h.jG is hp,h2,h⟩
def o4{P:Program}{n:Nat}{ops:List Oper}{K:aA->World->Prop}{L:aA}{w:World}{S:World->Prop}{SS:List (World->Prop)}{p:Plan}(h2:S w)(h:RP P n ops (S::SS) p K L w):∃ T:World->Prop,(∀ u,T u->S u)/\T w/\RP P n ops (T::SS) p K L w:=⟨S,λ _ h=>h,h2,h⟩
def iQ{z:Int}{n:Nat}(h:z=(n:Int)):some (Value.int .i64 z)=some (Value.int .i64 (n:Int)):=by rw[h]
end Go.Kw
namespace Go.Kw
open Go.RowKit
class Mx(P:Program):Prop where
 h:P.follows .mixedOrders=true
theorem Ent.mk'{P : Program}{f : FuncId}{fn : Func}(hf : P.funcs[f]? = some fn)(hb : fn.body.isNone = false := by exact J)(hn : (fn.name == "runtime.NumGoroutine") = false := by kernel_rfl) : Ent P f := ⟨.of hf hb hn⟩
def pl:List Nat->Plan->Plan
 |[],p=>p
 |k::r,p=>cond (Nat.blt k 1000) (.free k (pl r p)) (.one (k-1000) (pl r p))
section
variable {w0 w w':World} {cs cs' ds A B L:List Chunk}
def Sat.nn(h:Sat w0 cs w)(hp:uf cs=some cs':=by exact J):Sat w0 cs' w:=h.nf hp
def Sat.pk(h:Sat w0 cs w)(is:List Nat)(hp:fo is 0 cs=some cs':=by exact J):Sat w0 cs' w:=h.pick is hp
def Sat.pt(h:Sat w0 (A++cs) w)(is:List Nat)(hp:fo is 0 A=some L:=by exact J):Sat w0 (L++cs) w:=h.jG is hp
def Sat.mn(h:Sat w0 ((A++cs)++B) w)(hp:uf (A++B)=some L:=by exact J):Sat w0 (L++cs) w:=h.N5 hp
def Sat.sn{i:Nat}{c:Chunk}(h:Sat w0 ((A++cs).set i c) w)(hi:Nat.blt i A.length=true:=by exact J)(hp:uf (A.set i c)=some L:=by exact J):Sat w0 (L++cs) w:=h.O7 hi hp
def Sat.od(h:Sat w0 (A++cs) w)(idx:List Nat)(hp:idx.isPerm (List.range idx.length)=true:=by decide)(hl:A.length=idx.length:=by exact J)(hq:xG idx A=some L:=by exact J):Sat w0 (L++cs) w:=Sat.N1 idx hp h hl hq
def Sat.oc{M:List Chunk}(h:Sat w0 (A++cs) w)(idx:List Nat)(k:Nat)(hp:idx.isPerm (List.range idx.length)=true:=by decide)(hl:A.length=idx.length:=by exact J)(hq:xG idx A=some B:=by exact J)(h1:uf (B.take k)=some L:=by exact J)(h2:uf (B.drop k)=some M:=by exact J):Sat w0 (L++(M++cs)) w:=(Sat.N1 idx hp h hl hq).O0 k h1 h2
end
def ba{α:Type}{K:α->aA}{I:α->Prop}{μ:α->Nat}{m:Nat}{L':aA}(x':α)(hI:I x')(hw:(K x').map (λ q=>look L' q.1)=(K x').map (λ q=>some q.2):=by exact J)(hm:μ x'<m:=by first|omega|(dsimp only;omega)):∃ x',Weak (K x') L'/\I x'/\μ x'<m:=⟨x',wk hw,hI,hm⟩
section
variable {P:Program} {n:Nat} {N R:aA->World->Prop} {X G:List (Nat×(aA->World->Prop))} {L L0:aA} {w w0:World} {cs cs' A A':List Chunk}
def bQ{f:FuncId}{fn:Func}{c:Code}{args:List Value}{Φ:Value->World->Prop}(hf:P.funcs[f]? =some fn)(hb:fn.body=some c)(h:Sat w [] w->CW P fn.ntmps c ⟨aG P fn.ntmps fn Φ,aG P fn.ntmps fn Φ,[],[]⟩ (initK args 0) w)(hn:Nat.ble args.length fn.ntmps=true:=by exact J):CallsV P f args w Φ:=ay hf hb hn (h (Sat.start w))
def CW.lq{c:Code}{α:Type}(ts:List Nat)(h:lV ts L=some L0)(K:α->aA)(I:α->World->Prop)(μ:α->Nat)(x₀:α)(hI:I x₀ w)
  (round:∀ x w,I x w->CW P n c ⟨λ L' w'=>∃ x',Weak (K x'++L0) L'/\I x' w'/\μ x'<μ x,R,X,G⟩ (K x++L0) w) (h0:(K x₀++L0).map (λ q=>look L q.1)=(K x₀++L0).map (λ q=>some q.2):=by exact J):CW P n (.loop c) ⟨N,R,X,G⟩ L w:=CW.lp ts h K I μ x₀ (wk h0) hI round
def CW.dk[Mx P]{id:Nat}{l:List Oper}(is:List Nat)(hs:Sat w0 cs w)(hp:fo is 0 cs=some cs')(p:Plan)(h:Sat w0 cs w.drew->Sat w0 cs' w.drew->RP P n l [λ w'=>Sat w0 cs' w'] p N L w.drew)(hok:p.u9 l=true:=by kernel_rfl):CW P n (.region id l.toArray true) ⟨N,R,X,G⟩ L w:=
 CW.draw (λ w'=>Sat w0 cs' w') p Mx.h hok (h hs.drew (hs.drew.pick is hp))
def CW.dt[Mx P]{id:Nat}{l:List Oper}(is:List Nat)(hs:Sat w0 (A++cs) w)(hp:fo is 0 A=some A')(p:Plan)(h:Sat w0 (A++cs) w.drew->Sat w0 (A'++cs) w.drew->RP P n l [λ w'=>Sat w0 (A'++cs) w'] p N L w.drew)(hok:p.u9 l=true:=by kernel_rfl):CW P n (.region id l.toArray true) ⟨N,R,X,G⟩ L w:=
 CW.draw (λ w'=>Sat w0 (A'++cs) w') p Mx.h hok (h hs.drew (hs.drew.jG is hp))
end
section
variable {P:Program} [Tb P] {n:Nat} {L L':aA} {w w0:World} {d:Option Nat} {ty:TypeId} {pos:String} {af:Array Edge} {g:Option (Nat×Bool)} {ops l r:List Oper} {K:aA->World->Prop} {C:List Prop} {cs ds A M:List Chunk} {f:FuncId} {vs:List Value} {v:Value} {xs:List Operand} {ats:Array TypeId}
def RT.cp[he:Ent P f](k:Nat)(hs:Sat w0 cs w)(hc:CallsV P f vs w λ r w'=>r=v/\Sat w ds w')(h:(dM P n ops k l L,pE L' xs)=(some (⟨d,.call ⟨.value (.func f),xs.toArray,ats⟩,ty,pos,af,g⟩,r,L',C),some vs))
  (hk:∀ w',Sat w0 (cs++ds) w'->RT P n ops r K (putK d v L') w') (hC:All C:=by(repeat (first|exact trivial|refine⟨by first|rfl|omega|(simp only[IntKind.bits];omega),?_⟩))):RT P n ops l K L w:=RT.c k hc h (by rintro _ w' ⟨rfl,h1⟩;exact hk _ (hs.au h1)) hC
def RT.cq[he:Ent P f](k:Nat)(hs:Sat w0 cs w)(hc:CallsV P f vs w λ r w'=>r=v/\Sat w ds w')(h:(dM P n ops k l L,pE L' xs,uf (cs++ds))=(some (⟨d,.call ⟨.value (.func f),xs.toArray,ats⟩,ty,pos,af,g⟩,r,L',C),some vs,some M))
  (hk:∀ w',Sat w0 M w'->RT P n ops r K (putK d v L') w') (hC:All C:=by(repeat (first|exact trivial|refine⟨by first|rfl|omega|(simp only[IntKind.bits];omega),?_⟩))):RT P n ops l K L w:=by
 simp only[OY]at h;obtain⟨h1,h2,h3⟩:=h;exact RT.c k hc (by rw[h1,h2]) (by rintro _ w' ⟨rfl,h1⟩;exact hk _ ((hs.au h1).nf h3)) hC
def RT.cm[he:Ent P f](k:Nat)(hs:Sat w0 (A++cs) w)(hc:CallsV P f vs w λ r w'=>r=v/\Sat w ds w')(h:(dM P n ops k l L,pE L' xs,uf (A++ds))=(some (⟨d,.call ⟨.value (.func f),xs.toArray,ats⟩,ty,pos,af,g⟩,r,L',C),some vs,some M))
  (hk:∀ w',Sat w0 (M++cs) w'->RT P n ops r K (putK d v L') w') (hC:All C:=by(repeat (first|exact trivial|refine⟨by first|rfl|omega|(simp only[IntKind.bits];omega),?_⟩))):RT P n ops l K L w:=by
 simp only[OY]at h;obtain⟨h1,h2,h3⟩:=h;exact RT.c k hc (by rw[h1,h2]) (by rintro _ w' ⟨rfl,h1⟩;exact hk _ ((hs.au h1).N5 h3)) hC
end
theorem OpE.mono{P:Program}{n:Nat}{L:aA}{w:World}{o:Oper}{K K':Value->World->Prop}(h:OpE P n L w o K)(hk:∀ v w',K v w'->K' v w'):OpE P n L w o K':=
 λ a ha next Q hn=>h a ha next Q λ v w' hv=>hn v w' (hk v w' hv)
def rJ:Option Nat->Option Nat->Bool
 |some a,some b=> !Nat.beq a b
 |_,_=>true
def jI{x y:Option Nat}(h:rJ x y=true)(v u:Value)(L:aA)(t:Nat):look (putK x v (putK y u L)) t=look (putK y u (putK x v L)) t:=by
 cases x with
 |none=>rfl
 |some a=>
  cases y with
  |none=>rfl
  |some b=>
   simp only[rJ,R8]at h;simp only[putK,look];cases ha:Nat.beq a t<;>cases hb:Nat.beq b t<;>try rfl
   have e1:=Pv ha;have e2:=Pv hb;rw[e1,e2]at h;simp at h
def RP.yo{P:Program}{n:Nat}{ops:List Oper}{L:aA}{w:World}{K:aA->World->Prop}{S:World->Prop}{SS:List (World->Prop)}{p:Plan}{i j:Nat}{oi oj:Oper}(V:Value->Value->World->Prop)
  (h:(fL n ops i,fL n ops j,rJ oi.dst oj.dst)=(some oi,some oj,true))
  (he:OpE P n L w oi λ v w'=>S w'/\OpE P n (putK oi.dst v L) w' oj λ u w''=>S w''/\V v u w'')
  (he':OpE P n L w oj λ u w'=>S w'/\OpE P n (putK oj.dst u L) w' oi λ v w''=>S w''/\V v u w'')
  (hk:∀ v u w',V v u w'->RP P n ops (S::SS) p K (putK oj.dst u (putK oi.dst v L)) w'):RP P n ops (S::SS) (.two i j (.one j p) (.one i p)) K L w:=by
 simp only[OY]at h;obtain⟨h1,h2,h3⟩:=h;have p1:=cW h1;have p2:=cW h2;refine .two p1.1 (dO p1.2) (dP p1.2) p2.1 (dO p2.2) (dP p2.2) (he.mono λ v w' hq=>⟨hq.1,.f h2 (hq.2.mono λ u w'' hr=>⟨hr.1,hk v u w'' hr.2⟩)⟩)
  (he'.mono λ u w' hq=>⟨hq.1,.f h1 (hq.2.mono λ v w'' hr=>⟨hr.1,λ a ha=>hk v u w'' hr.2 a ⟨ha.size,λ t x hx=>ha.slot t x (by rw[jI h3];exact hx),ha.defers⟩⟩)⟩)
def Bf{n:Nat}{x y:Option Nat}{v u:Value}{L:aA}{a:Act}(h:rJ x y=true)(ha:Fits n (putK x v (putK y u L)) a):Fits n (putK y u (putK x v L)) a:=⟨ha.size,λ t z hz=>ha.slot t z (by rw[jI h];exact hz),ha.defers⟩
def D4{x:Option Nat}{v:Value}{L L':aA}(h:∀ t,look L t=look L' t)(t:Nat):look (putK x v L) t=look (putK x v L') t:=by
 cases x with
 |none=>exact h t
 |some a=>simp only[putK,look];rw[h t]
def RP.C2{P:Program}{n:Nat}{ops:List Oper}{L:aA}{w:World}{K:aA->World->Prop}{S:World->Prop}{SS:List (World->Prop)}{p:Plan}{i k j:Nat}{oi ok oj:Oper}(V:Value->Value->Value->World->Prop)
  (h:(fL n ops i,fL n ops k,fL n ops j,rJ oi.dst oj.dst&&rJ ok.dst oj.dst)=(some oi,some ok,some oj,true))
  (he:OpE P n L w oi λ v w'=>S w'/\OpE P n (putK oi.dst v L) w' ok (λ x w''=>S w''/\OpE P n (putK ok.dst x (putK oi.dst v L)) w'' oj λ u w3=>S w3/\V v x u w3)/\OpE P n (putK oi.dst v L) w' oj (λ u w''=>S w''/\OpE P n (putK oj.dst u (putK oi.dst v L)) w'' ok λ x w3=>S w3/\V v x u w3))
  (he':OpE P n L w oj λ u w'=>S w'/\OpE P n (putK oj.dst u L) w' oi λ v w''=>S w''/\OpE P n (putK oi.dst v (putK oj.dst u L)) w'' ok λ x w3=>S w3/\V v x u w3)
  (hk:∀ v x u w',V v x u w'->RP P n ops (S::SS) p K (putK oj.dst u (putK ok.dst x (putK oi.dst v L))) w'):RP P n ops (S::SS) (.two i j (.two k j (.one j p) (.one k p)) (.one i (.one k p))) K L w:=by
 simp only[OY,OK]at h;obtain⟨h1,h2,h3,h4,h5⟩:=h;have p1:=cW h1;have p2:=cW h2;have p3:=cW h3;refine .two p1.1 (dO p1.2) (dP p1.2) p3.1 (dO p3.2) (dP p3.2)
  (he.mono λ v w' hq=>⟨hq.1,.two p2.1 (dO p2.2) (dP p2.2) p3.1 (dO p3.2) (dP p3.2)
   (hq.2.1.mono λ x w'' hr=>⟨hr.1,.f h3 (hr.2.mono λ u w3 ht=>⟨ht.1,hk v x u w3 ht.2⟩)⟩)
   (hq.2.2.mono λ u w'' hr=>⟨hr.1,.f h2 (hr.2.mono λ x w3 ht=>⟨ht.1,λ a ha=>hk v x u w3 ht.2 a (Bf h5 ha)⟩)⟩)⟩)
  (he'.mono λ u w' hq=>⟨hq.1,.f h1 (hq.2.mono λ v w'' hr=>⟨hr.1,.f h2 (hr.2.mono λ x w3 ht=>⟨ht.1,λ a ha=>hk v x u w3 ht.2 a ⟨ha.size,λ t z hz=>ha.slot t z ?_,ha.defers⟩⟩)⟩)⟩)
 rw[D4 (jI h4 v u L),jI h5];exact hz
