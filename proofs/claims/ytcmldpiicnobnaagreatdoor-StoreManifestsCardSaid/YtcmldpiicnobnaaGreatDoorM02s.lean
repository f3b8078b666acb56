/-
 M02s:the references of the layers 2,3 and 15 compute what the program computes. No program in sight.
-/
import Derived.Test.YtcmldpiicnobnaaGreatDoorM06
import Derived.Test.YtcmldpiicnobnaaGreatDoorShelf
import Derived.Test.YtcmldpiicnobnaaGreatDoorTab
set_option linter.all false
set_option maxRecDepth 100000
open Go.Proofs.YtcmldpiicnobnaaGreatDoor
open List
namespace Go.Kw
def uW{v:Nat}(hv:v<2^64)(h:128<=v):uv v=(v%128+128)::uv (v/128):=by
 rw[GP v hv h];have:=IA (v%2^8) (by omega);have e:(v%2^8|||128)=v%128+128:=by
  obtain⟨h1,h2,h3⟩:=this;omega
 rw[e]
def jM{v:Nat}(h:v<128):uv v=[v]:=by rw[DH v h,P6 (by omega)]
def pK(x w:Nat):∀ m,m<=w->bZ (x%2^w) m=bZ x m
 |0,_=>rfl
 |m+1,h=>by
  rw[bZ,bZ,pK x w m (by omega)];congr 2;have e:2^w=2^m*2^(w-m):=by rw[<-Re];congr 1;omega
  rw[e,Nat.mod_mul_right_div_self,Nat.mod_mod_of_dvd _ (Nat.pow_dvd_pow 2 (by omega))]
def pL(l:List Bool)(k:Nat):List Nat:=(List.range ((l.length+7)/8)).map (dc (l.take k))
def kZ(l:List Bool)(k:Nat):(pL l k).length=(l.length+7)/8:=by simp[pL]
def Dv(l:List Bool):pL l 0=List.replicate ((l.length+7)/8) 0:=by
 rw[pL,eq_replicate_iff];refine⟨by simp,λ b hb=>?_⟩;obtain⟨k,_,rfl⟩:=Ps.1 hb;rw[take_zero];exact xR [] k (by simp)
def GD(l:List Bool):pL l l.length=bE l:=by rw[pL,P7];rfl
def GF{l:List Bool}{k:Nat}(h:k<l.length):(pL l k)[k/8]? =some (dc (l.take k) (k/8)):=by
 rw[pL,OT,Rg (by omega)];rfl
def Bo{l:List Bool}{k:Nat}(h:l[k]? =some false):pL l (k+1)=pL l k:=by
 have hk:=dH h;refine Qq λ j _=>?_;rw[aB h,o8];split
 ·simp[gl]
 ·rfl
def Dw{l:List Bool}{k:Nat}(h:l[k]? =some true):pL l (k+1)=(pL l k).set (k/8) (dc (l.take k) (k/8)|||128/2^(k%8)):=by
 have hk:=dH h;have ht:(l.take k).length=k:=by simp;omega
 apply QN;intro j;rcases OI j ((l.length+7)/8)with hj|hj
 ·rw[Q1,pL,OT,Rg hj,pL,OT,Rg hj];simp only[PY,OC,Sl];rw[aB h,o8,ht];by_cases e:k/8=j
  ·rw[Ow e.symm,Ow e,Ow (by omega),e];simp[gl]
  ·rw[OB (λ q=>e q.symm),OB e]
 ·rw[OX (by simp[pL];omega),OX (by simp[pL];omega)]
def Dx(a b:Nat):(a^^^b)%2=(a+b)%2:=by
 have h:=Nat.xor_mod_two_pow (a:=a) (b:=b) (n:=1);rw[Nat.pow_one]at h;rw[h];rcases Qk a with ha|ha<;>rcases Qk b with hb|hb<;>(rw[ha,hb,Nat.add_mod,ha,hb];rfl)
def Dy(a b:Nat):(a^^^b)/2=a/2^^^b/2:=by
 have:=Nat.xor_div_two (a:=a) (b:=b);exact this
def GG(a b:Nat):xe (a^^^b)=xe a^^^xe b:=by
 unfold xe;have h1:=Dx a b;have h2:=Dy a b;simp only[Nat.pow_one];rw[h2,h1];rcases Qk a with ha|ha<;>rcases Qk b with hb|hb
 ·rw[OB (by omega),OB (by omega),OB (by omega)]
 ·rw[Ow (by omega),OB (by omega),Ow (by omega),QL]
 ·rw[Ow (by omega),Ow (by omega),OB (by omega),QL,QL,Rr (b/2)]
 ·rw[OB (by omega),Ow (by omega),Ow (by omega)];rw[QL,<-QL 2197175160,Rr 2197175160 (b/2),QL,Nat.xor_self,Nat.xor_zero]
def rR(a b:Nat):∀ n,cG (a^^^b) n=cG a n^^^cG b n
 |0=>rfl
 |n+1=>by rw[cG,cG,cG,rR a b n,GG]
def pM(q:Nat):∀ n m,cG (q*2^(n+m)) n=q*2^m
 |0,m=>by simp[cG]
 |n+1,m=>by
  rw[cG,show n+1+m=n+(m+1) by omega,pM q n (m+1),xe,PG,<-Qj];rw[OB (by omega)];omega
def GH(v:Nat):v=(v/2^4)*2^4^^^v%2^4:=by
 have h:=tC (v:=v%2^4) (x:=v/2^4) (k:=4) (R4 _ (by decide));have:v%2^4^^^(v/2^4)*2^4=v%2^4+(v/2^4)*2^4:=by
  apply Nat.eq_of_testBit_eq;intro i;have e:=If (λ z=>Nat.testBit z i) h;simp only[Nat.testBit_or]at e;rw[Nat.testBit_xor,<-e];rcases OI i 4 with hi|hi
  ·rw[Nat.testBit_mul_two_pow];simp[show¬ (4<=i) by omega]
  ·rw[Nat.testBit_lt_two_pow (x:=v%2^4) (i:=i) (QQ (R4 _ (by decide)) (Pz (by decide) hi))];simp
 rw[Rr,this];omega
def pN(v:Nat):cG v 4=oz v:=by
 conv=>lhs;rw[GH v]
 rw[rR,oz];have:=pM (v/2^4) 4 0;rw[PZ,Sf,PL]at this;rw[this];rfl
def rS(v a:Nat):∀ b,cG v (a+b)=cG (cG v a) b
 |0=>rfl
 |b+1=>by rw[<-Qi,cG,cG,rS v a b]
def uX(v c:Nat):cG (v^^^c) 8=qf v c:=by
 rw[show 8=4+4 from J,rS,pN,pN];rfl
def pO:∀ (f v:Nat),v<2^f->0<v->Lib.bitLenAux (f+1) v=Lib.bitLenAux f (v/2)+1:=λ f v _ h=>by
 rw[Lib.bitLenAux,OB (by omega)];omega
def ji:∀ (f v:Nat),v<2^f->Lib.bitLenAux (f+1) v=Lib.bitLenAux f v
 |0,v,h=>by
  have:v=0:=by simpa using h
  subst this;rfl
 |f+1,v,h=>by
  rw[Lib.bitLenAux]
  conv=>rhs;rw[Lib.bitLenAux]
  split
  ·rfl
  ·rw[ji f (v/2) (by rw[PG]at h;omega)]
def bitLen_half{v:Nat}(hv:v<2^64)(h:0<v):Lib.bitLen v=Lib.bitLen (v/2)+1:=by
 unfold Lib.bitLen;rw[show(64:Nat)=63+1 from J,<-ji (63+1) v hv,pO (63+1) v hv h]
def l0{v:Nat}(h:0<v):0<Lib.bitLen v:=by
 unfold Lib.bitLen;rw[show(64:Nat)=63+1 from J,Lib.bitLenAux,OB (by omega)];omega
def tt{v:Nat}(hv:v<2^64)(h:128<=v):Lib.bitLen v=Lib.bitLen (v/128)+7:=by
 rw[bitLen_half hv (by omega),bitLen_half (v:=v/2) (by omega) (by omega),bitLen_half (v:=v/2/2) (by omega) (by omega),bitLen_half (v:=v/2/2/2) (by omega) (by omega),
  bitLen_half (v:=v/2/2/2/2) (by omega) (by omega),bitLen_half (v:=v/2/2/2/2/2) (by omega) (by omega),bitLen_half (v:=v/2/2/2/2/2/2) (by omega) (by omega)]
 rw[show v/2/2/2/2/2/2/2=v/128 by omega]
def uY:∀ (n v:Nat),v<=n->v<2^64->(uv v).length=mj v
 |n,v,hn,hv=>by
  rcases OI v 128 with h|h
  ·rw[jM h];have:=bitLen_le (v:=v) (n:=7) (by simpa using h);unfold mj;simp;omega
  ·cases n with
   |zero=>omega
   |succ n=>
    rw[uW hv h,KW,uY n (v/128) (by omega) (by omega)];have h1:=tt hv h;have h2:=l0 (v:=v/128) (by omega);unfold mj;omega
def pP{v:Nat}(hv:v<2^64):(uv v).length=mj v:=uY v v (KP _) hv
def Dz(w:Nat):∀ (l:List Nat) (_:l.length<2^63) (_:∀ x∈l,x<2^63),(gp w l).1=l.length/\(di w l).1=l.length/\(di w l).2.1.length=l.length*w/\(gp w l).2.1=(di w l).2.2.1.length/\(gp w l).2.2.1=(di w l).2.2.2.1/\(gp w l).2.2.2=(di w l).2.2.2.2/\(gp w l).2.2.1<=l.length:=by
 refine mi (λ _ _=>by simp[gp,di]) λ l x ih=>?_
 ·intro hn hb;simp only[AT,KW,Oy]at hn;obtain⟨h1,h2,h3,h4,h5,h6,h7⟩:=ih (by omega) (λ y hy=>hb y (PO _ hy));have hx:=hb x (by simp);have hd:=QD x (2^w);rw[vG,gq];unfold pY iI;split
  ·have u1:=pP (v:=l.length+1-(di w l).2.2.2.2) (by omega);have u2:=pP (v:=x/2^w) (by omega);simp only[AT,KW,Oy,aK,u1,u2,h1,h2,h3,h4,h5,h6,Pp,Qw,Pa,RH,Sg];rw[h5]at h7;omega
  ·simp only[AT,KW,Oy,aK,h1,h2,h3,h4,h5,h6,Pp,Qw,Pa,RH,Sg];rw[h5]at h7;omega
def jO{w:Nat}{l:List Nat}(hw:w<2^63)(hn:l.length<2^63)(hb:∀ x∈l,x<2^63):zd w l=(mm w l).length:=by
 obtain⟨h1,h2,h3,h4,h5,h6,h7⟩:=Dz w l hn hb;unfold zd mm;rw[h4,h5];simp only[AT,bV,h3];rw[pP (v:=l.length) (by omega),pP (v:=w) (by omega),pP (v:=(di w l).2.2.2.1) (by omega)];omega
end Go.Kw
namespace Go.Proofs.YtcmldpiicnobnaaGreatDoor
open Go.RowKit Go.Kw
