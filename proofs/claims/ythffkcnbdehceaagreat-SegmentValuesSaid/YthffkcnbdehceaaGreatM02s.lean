/-
 M02s:the references of the layers 2,3 and 15 compute what the program computes. No program in sight.
-/
import Derived.Test.YthffkcnbdehceaaGreatM16
import Derived.Test.YthffkcnbdehceaaGreatTab
import Derived.Test.YthffkcnbdehceaaGreatM15u
set_option linter.all false
set_option maxRecDepth 100000
open Go.Proofs.YthffkcnbdehceaaGreat
open List hiding count
namespace Go.Kw
def yR{v:Nat}(hv:v<2^64)(h:128<=v):uv v=(v%128+128)::uv (v/128):=by
 rw[CH v hv h];have:=Mr (v%2^8) (by omega);have e:(v%2^8|||128)=v%128+128:=by
  obtain⟨h1,h2,h3⟩:=this;omega
 rw[e]
def lJ{v:Nat}(h:v<128):uv v=[v]:=by rw[ze v h,RR (by omega)]
def rY(x w:Nat):∀ m,m<=w->aT (x%2^w) m=aT x m
 |0,_=>rfl
 |m+1,h=>by
  rw[aT,aT,rY x w m (by omega)];congr 2;have e:2^w=2^m*2^(w-m):=by rw[<-Ul];congr 1;omega
  rw[e,Nat.mod_mul_right_div_self,Nat.mod_mod_of_dvd _ (Nat.pow_dvd_pow 2 (by omega))]
def rZ(l:List Bool)(k:Nat):List Nat:=(List.range ((l.length+7)/8)).map (cD (l.take k))
def mC(l:List Bool)(k:Nat):(rZ l k).length=(l.length+7)/8:=by simp[rZ]
def Hd(l:List Bool):rZ l 0=List.replicate ((l.length+7)/8) 0:=by
 rw[rZ,eq_replicate_iff];refine⟨by simp,λ b hb=>?_⟩;obtain⟨k,_,rfl⟩:=Sk.1 hb;rw[VN];exact su [] k (by simp)
def KC(l:List Bool):rZ l l.length=aE l:=by rw[rZ,RD];rfl
def KE{l:List Bool}{k:Nat}(h:k<l.length):(rZ l k)[k/8]? =some (cD (l.take k) (k/8)):=by
 rw[rZ,Rz,TP (by omega)];rfl
def EO{l:List Bool}{k:Nat}(h:l[k]? =some false):rZ l (k+1)=rZ l k:=by
 have hk:=aL h;refine TD λ j _=>?_;rw[aj h,fP];split
 ·simp[gh]
 ·rfl
def He{l:List Bool}{k:Nat}(h:l[k]? =some true):rZ l (k+1)=(rZ l k).set (k/8) (cD (l.take k) (k/8)|||128/2^(k%8)):=by
 have hk:=aL h;have ht:(l.take k).length=k:=by simp;omega
 apply TL;intro j;rcases RG j ((l.length+7)/8)with hj|hj
 ·rw[T8,rZ,Rz,TP hj,rZ,Rz,TP hj];simp only[T9,Rq,Ux];rw[aj h,fP,ht];by_cases e:k/8=j
  ·rw[No e.symm,No e,No (by omega),e];simp[gh]
  ·rw[M2 (λ q=>e q.symm),M2 e]
 ·rw[RN (by simp[rZ];omega),RN (by simp[rZ];omega)]
def Hf(a b:Nat):(a^^^b)%2=(a+b)%2:=by
 have h:=Nat.xor_mod_two_pow (a:=a) (b:=b) (n:=1);rw[Nat.pow_one]at h;rw[h];rcases TI a with ha|ha<;>rcases TI b with hb|hb<;>(rw[ha,hb,Nat.add_mod,ha,hb];rfl)
def Hg(a b:Nat):(a^^^b)/2=a/2^^^b/2:=by
 have:=Nat.xor_div_two (a:=a) (b:=b);exact this
def KF(a b:Nat):st1 (a^^^b)=st1 a^^^st1 b:=by
 unfold st1;have h1:=Hf a b;have h2:=Hg a b;simp only[Nat.pow_one];rw[h2,h1];rcases TI a with ha|ha<;>rcases TI b with hb|hb
 ·rw[M2 (by omega),M2 (by omega),M2 (by omega)]
 ·rw[No (by omega),M2 (by omega),No (by omega),Uy]
 ·rw[No (by omega),No (by omega),M2 (by omega),Uy,Uy,Nat.xor_comm (b/2)]
 ·rw[M2 (by omega),No (by omega),No (by omega)];rw[Uy,<-Uy 2197175160,Nat.xor_comm 2197175160 (b/2),Uy,Nat.xor_self,Nat.xor_zero]
def vf(a b:Nat):∀ n,cR (a^^^b) n=cR a n^^^cR b n
 |0=>rfl
 |n+1=>by rw[cR,cR,cR,vf a b n,KF]
def sd(q:Nat):∀ n m,cR (q*2^(n+m)) n=q*2^m
 |0,m=>by simp[cR]
 |n+1,m=>by
  rw[cR,show n+1+m=n+(m+1) by omega,sd q n (m+1),st1,T0,<-Ty];rw[M2 (by omega)];omega
def KG(v:Nat):v=(v/2^4)*2^4^^^v%2^4:=by
 have h:=o8 (v:=v%2^4) (x:=v/2^4) (k:=4) (TZ _ (by decide));have:v%2^4^^^(v/2^4)*2^4=v%2^4+(v/2^4)*2^4:=by
  apply Nat.eq_of_testBit_eq;intro i;have e:=If (λ z=>Nat.testBit z i) h;simp only[Nat.testBit_or]at e;rw[Nat.testBit_xor,<-e];rcases RG i 4 with hi|hi
  ·rw[Nat.testBit_mul_two_pow];simp[show¬ (4<=i) by omega]
  ·rw[Nat.testBit_lt_two_pow (x:=v%2^4) (i:=i) (TY (TZ _ (by decide)) (Sc (by decide) hi))];simp
 rw[Nat.xor_comm,this];omega
def sf(v:Nat):cR v 4=BH v:=by
 conv=>lhs;rw[KG v]
 rw[vf,BH];have:=sd (v/2^4) 4 0;rw[T7,Vv,SA]at this;rw[this];rfl
def vg(v a:Nat):∀ b,cR v (a+b)=cR (cR v a) b
 |0=>rfl
 |b+1=>by rw[<-Ti,cR,cR,vg v a b]
def yS(v c:Nat):cR (v^^^c) 8=NK v c:=by
 rw[show 8=4+4 from Y,vg,sf,sf];rfl
def sg:∀ (f v:Nat),v<2^f->0<v->Lib.bitLenAux (f+1) v=Lib.bitLenAux f (v/2)+1:=λ f v _ h=>by
 rw[Lib.bitLenAux,M2 (by omega)];omega
def kR:∀ (f v:Nat),v<2^f->Lib.bitLenAux (f+1) v=Lib.bitLenAux f v
 |0,v,h=>by
  have:v=0:=by simpa using h
  subst this;rfl
 |f+1,v,h=>by
  rw[Lib.bitLenAux]
  conv=>rhs;rw[Lib.bitLenAux]
  split
  ·rfl
  ·rw[kR f (v/2) (by rw[T0]at h;omega)]
def bitLen_half{v:Nat}(hv:v<2^64)(h:0<v):Lib.bitLen v=Lib.bitLen (v/2)+1:=by
 unfold Lib.bitLen;rw[show(64:Nat)=63+1 from Y,<-kR (63+1) v hv,sg (63+1) v hv h]
def mD{v:Nat}(h:0<v):0<Lib.bitLen v:=by
 unfold Lib.bitLen;rw[show(64:Nat)=63+1 from Y,Lib.bitLenAux,M2 (by omega)];omega
def wQ{v:Nat}(hv:v<2^64)(h:128<=v):Lib.bitLen v=Lib.bitLen (v/128)+7:=by
 rw[bitLen_half hv (by omega),bitLen_half (v:=v/2) (by omega) (by omega),bitLen_half (v:=v/2/2) (by omega) (by omega),bitLen_half (v:=v/2/2/2) (by omega) (by omega),
  bitLen_half (v:=v/2/2/2/2) (by omega) (by omega),bitLen_half (v:=v/2/2/2/2/2) (by omega) (by omega),bitLen_half (v:=v/2/2/2/2/2/2) (by omega) (by omega)]
 rw[show v/2/2/2/2/2/2/2=v/128 by omega]
def yT:∀ (n v:Nat),v<=n->v<2^64->(uv v).length=iJ v
 |n,v,hn,hv=>by
  rcases RG v 128 with h|h
  ·rw[lJ h];have:=bitLen_le (v:=v) (n:=7) (by simpa using h);unfold iJ;simp;omega
  ·cases n with
   |zero=>omega
   |succ n=>
    rw[yR hv h,LW,yT n (v/128) (by omega) (by omega)];have h1:=wQ hv h;have h2:=mD (v:=v/128) (by omega);unfold iJ;omega
def sh{v:Nat}(hv:v<2^64):(uv v).length=iJ v:=yT v v (KD _) hv
def Hh(w:Nat):∀ (l:List Nat) (_:l.length<2^63) (_:∀ x∈l,x<2^63),(fA w l).1=l.length/\(df w l).1=l.length/\(df w l).2.1.length=l.length*w/\(fA w l).2.1=(df w l).2.2.1.length/\(fA w l).2.2.1=(df w l).2.2.2.1/\(fA w l).2.2.2=(df w l).2.2.2.2/\(fA w l).2.2.1<=l.length:=by
 refine jY (λ _ _=>by simp[fA,df]) λ l x ih=>?_
 ·intro hn hb;simp only[sp,LW,Rp]at hn;obtain⟨h1,h2,h3,h4,h5,h6,h7⟩:=ih (by omega) (λ y hy=>hb y (Td _ hy));have hx:=hb x (by simp);have hd:=SN x (2^w);rw[l3,eJ];unfold l1 dQ;split
  ·have u1:=sh (v:=l.length+1-(df w l).2.2.2.2) (by omega);have u2:=sh (v:=x/2^w) (by omega);simp only[sp,LW,Rp,aH,u1,u2,h1,h2,h3,h4,h5,h6,Sp,Ts,RX,true_and,and_true];rw[h5]at h7;omega
  ·simp only[sp,LW,Rp,aH,h1,h2,h3,h4,h5,h6,Sp,Ts,RX,true_and,and_true];rw[h5]at h7;omega
def lK{w:Nat}{l:List Nat}(hw:w<2^63)(hn:l.length<2^63)(hb:∀ x∈l,x<2^63):iK w l=(iL w l).length:=by
 obtain⟨h1,h2,h3,h4,h5,h6,h7⟩:=Hh w l hn hb;unfold iK iL;rw[h4,h5];simp only[sp,aK,h3];rw[sh (v:=l.length) (by omega),sh (v:=w) (by omega),sh (v:=(df w l).2.2.2.1) (by omega)];omega
end Go.Kw
namespace Go.Kw
open Go.RowKit
def Pe:Value->SV
 | .slice a n c=>⟨a,n,c⟩
 |_=>⟨none,0,0⟩
def yU(l:List Nat):jB l 0=jA l.length 0 []++dC 0 (ku l (cG l.length)):=by simp[jB,ky]
def Cz(l:List Nat):jB l 1=jA l.length 1 (aQ l)++dC 1 (j5 l (cG l.length)):=by simp[jB,ky]
def yV(n:Nat):jA n 0 []=uv n++[0]:=by rw[jA,lJ (v:=0) (by decide)];simp
def KH(n:Nat)(lens:List Nat):jA n 1 lens=uv n++[1]++uv lens.length++lens.map (· %2^8):=by rw[jA,lJ (v:=1) (by decide)];simp
def wR{l:List Nat}{n k:Nat}(h:k<n):(ku l n)[k]? =some (bH (eo l k),0):=by simp[ku,h]
def wS{l:List Nat}{n k:Nat}(h:k<n):(j5 l n)[k]? =some (aE (bZ (aQ l) (eo l k)),(bZ (aQ l) (eo l k)).length):=by simp[j5,h]
def CA(l:List Nat)(n:Nat):(ku l n).length=n:=by simp[ku]
def CC(l:List Nat)(n:Nat):(j5 l n).length=n:=by simp[j5]
def yW{l:List Nat}{ps:List (SV×List Nat)}(h:ps.map Prod.snd=(List.range (cG l.length)).map (eo l)){k:Nat}{x:SV×List Nat}(hx:ps[k]? =some x):k<cG l.length/\x.2=eo l k:=by
 have hk:k<cG l.length:=by
  have h1:=(IN.1 hx).1;have h2:=If List.length h;simp at h2;omega
 refine⟨hk,?_⟩;have:=If (λ q=>q[k]?) h;simp only[Rz,hx,T9,TP hk]at this;exact SC this
def CD(kind:Nat):∀ (ps:List (List Nat×Nat)) (B:Nat),(∀ p∈ps,p.1.length<=B)->(dC kind ps).length<=(10+B)*ps.length
 |[],B,_=>by simp[dC]
 |p::r,B,h=>by
  have ih:=CD kind r B λ q hq=>h q (by simp[hq]);have hp:=h p (by simp);have hu:=aC (if kind=0 then p.1.length else p.2);have e:dC kind (p::r)=mM kind p++dC kind r:=rfl;rw[e,mM,sp,sp,LW,Nat.mul_add];omega
def lL{l:List Nat}{k:Nat}(hl:OkN l)(hk:k<=1):(jB l k).length<=2000000:=by
 have hn:=hl.len;have hnb:cG l.length<=64:=by unfold cG;omega
 have hs:(if k=1 then aQ l else[]).length<=1024:=by
  split
  ·rw[cK];exact hl.mx
  ·simp
 have hh:=k8 l.length k (if k=1 then aQ l else[]);have hp:=CD k (if k=1 then j5 l (cG l.length)else ku l (cG l.length)) 20000 λ p hp=>by
  split at hp
  ·obtain⟨i,_,rfl⟩:=Sk.1 hp;have h1:=eQ (GoodLens.vV (fJ l hl.mx)) (eo l i);have h2:=cg l i;show(aE _).length<=_;rw[aK];omega
  ·obtain⟨i,_,rfl⟩:=Sk.1 hp;have h2:=cg l i;have:=k9 (eo l i) (by omega);show(bH _).length<=_;omega
 have hq:(if k=1 then j5 l (cG l.length)else ku l (cG l.length)).length<=64:=by
  split
  ·rw[CC];exact hnb
  ·rw[CA];exact hnb
 have:=UD (10+20000) hq;unfold jB ky;rw[sp];omega
end Go.Kw
namespace Go.Proofs.YthffkcnbdehceaaGreat
open Go.RowKit Go.Kw
def jK{l:List Nat}{k:Nat}(hk:k<=1):∀ x∈jB l k,x<256:=by
 refine CX _ _ _ _ λ p hp x hx=>?_;split at hp
 ·obtain⟨i,_,rfl⟩:=Sk.1 hp;exact fQ _ x hx
 obtain⟨i,_,rfl⟩:=Sk.1 hp;exact l7 _ _ x hx
end Go.Proofs.YthffkcnbdehceaaGreat
namespace Go.Kw
def uX(b:List Nat):Nat×Bool×List Nat:=aX true b 128
def uY(b:List Nat):Nat×Bool×List Nat:=aX (uX b).2.1 (uX b).2.2 31
def uZ(b:List Nat):Nat×Bool×List Nat:=aX (uY b).2.1 (uY b).2.2 128
def uS(b:List Nat):Nat:=((uX b).1*(uY b).1+7)/8
def uE(b:List Nat):Option (List Nat):=Jo (uY b).1 (uX b).1 (uZ b).1 (uZ b).2.1 ((uZ b).2.2.drop (uS b)) 0 (kg ((uZ b).2.2.take (uS b)) (uX b).1 (uY b).1)
theorem wT(b:List Nat):u7 b=if(uZ b).2.1=false\/(uZ b).2.2.length<uS b then none else match uE b with|none=>none|some vs=>if bH vs=b then some vs else none:=rfl
def Hi{b:List Nat}(h:(uZ b).2.1=false\/(uZ b).2.2.length<uS b):u7 b=none:=by rw[wT,No h]
def Hj{b:List Nat}(h:uE b=none):u7 b=none:=by rw[wT,h];split<;>rfl
def yX{b vs:List Nat}(h1:¬ ((uZ b).2.1=false\/(uZ b).2.2.length<uS b))(h:uE b=some vs):u7 b=if bH vs=b then some vs else none:=by rw[wT,M2 h1,h]
def Mj(b:List Nat):(uX b).1<=128:=lW _ _ _
def Ml(b:List Nat):(uY b).1<=31:=lW _ _ _
def Pf(b:List Nat):(uZ b).1<=128:=lW _ _ _
def Nv(b:List Nat):(uX b).1*(uY b).1<=128*31:=Vb (Mj b) (Ml b)
def Hk(b:List Nat):∀ x∈(uZ b).2.2,x∈b:=λ x hx=>dY _ _ _ x (dY _ _ _ x (dY _ _ _ x hx))
def Hl(b:List Nat):∀ x∈(uX b).2.2,x∈b:=λ x hx=>dY _ _ _ x hx
def Nw(b:List Nat):∀ x∈(uY b).2.2,x∈b:=λ x hx=>Hl b x (dY _ _ _ x hx)
def Hm(b:List Nat):(uX b).2.2.length<=b.length:=ie _ _ _
def Hn(b:List Nat):(uY b).2.2.length<=b.length:=RV (ie _ _ _) (Hm b)
def Nx(b:List Nat):(uZ b).2.2.length<=b.length:=RV (ie _ _ _) (Hn b)
def mE(l:List Nat)(n w k:Nat):List Nat:=(List.range k).map (λ i=>o9 l (w*i) w)++List.replicate (n-k) 0
def EP(l:List Nat)(n w:Nat):mE l n w 0=List.replicate n 0:=by simp[mE]
def pY{l:List Nat}{n w k:Nat}(h:k<=n):(mE l n w k).length=n:=by simp[mE];omega
def Ho(l:List Nat)(n w:Nat):mE l n w n=kg l n w:=by simp[mE,kg]
def Hp{l:List Nat}{n w k:Nat}(h:k<n):(mE l n w k).set k (o9 l (w*k) w)=mE l n w (k+1):=by
 unfold mE;rw[Sf _ _ (by simp),show n-k=(n-(k+1))+1 by omega,TR,To];simp
def Hq(l:List Nat)(n w:Nat)(hw:w<=31):∀ x∈kg l n w,x<=2147483647:=λ x hx=>by
 obtain⟨i,_,rfl⟩:=Sk.1 hx;have h1:=tc l (w*i) w;have h2:2^w<=2^31:=Sc (by decide) hw;omega
def wU(l:List Nat)(n w:Nat):(kg l n w).length=n:=by simp[kg]
def KI{a b:Nat}(ha:a<=2147483647)(hb:b<=2147483647):a|||b<=2147483647:=by
 have:=Us (n:=31) (x:=a) (y:=b) (by omega) (by omega);omega
def KJ{h w:Nat}(hh:h<=2147483647/2^w):h*2^w<=2147483647:=RV (SY _ hh) (Nat.div_mul_le_self _ _)
def nL(l:List Nat)(s:List Nat×List (List Nat)×Nat)(x:Nat):List Nat×List (List Nat)×Nat:=
 (if(s.2.1.getD (ak l x) []).length=0 then s.1.set (ak l x) (cA l x)else s.1,s.2.1.set (ak l x) (s.2.1.getD (ak l x) []++[x]),ak l x)
def tabN(l ord:List Nat):List Nat×List (List Nat)×Nat:=ord.foldl (nL l) (List.replicate 16 0,List.replicate 16 [],0)
def eM(l ord:List Nat)(x:Nat):tabN l (ord++[x])=nL l (tabN l ord) x:=by simp[tabN]
def Hr{α:Type}{l:List α}{d v:α}{i j:Nat}(h:i<l.length):(l.set i v).getD j d=if i=j then v else l.getD j d:=by
 simp only[KP,T8];by_cases hij:i=j
 ·simp[hij,hij▸h]
 ·simp[hij]
def si(l:List Nat):List Nat->Nat
 |[]=>0
 |x::_=>cA l x
def tU(l:List Nat){a:List Nat}(b:List Nat)(h:a≠[]):si l (a++b)=si l a:=by
 cases a with
 |nil=>exact absurd Y h
 |cons y r=>rfl
def eO(l:List Nat)(h:∀ i,ak l i<=15):∀ ord:List Nat,(tabN l ord).1.length=16/\(tabN l ord).2.1.length=16/\
  (∀ n,n<16->(tabN l ord).2.1.getD n []=ord.filter (λ x=>ak l x==n)/\(tabN l ord).1.getD n 0=si l (ord.filter λ x=>ak l x==n))/\(tabN l ord).2.2<=15:=by
 refine jY ⟨by simp[tabN],by simp[tabN],λ n hn=>?_,by simp[tabN]⟩ λ ord x ih=>?_
 ·have e1:(tabN l []).2.1.getD n []=[]:=by simp only[tabN,foldl_nil,KP,Tn];rw[No hn];rfl
  have e2:(tabN l []).1.getD n 0=0:=by simp only[tabN,foldl_nil];exact cz ..
  exact⟨e1,e2⟩
 ·obtain⟨h1,h2,h3,h4⟩:=ih;have hx:=h x;rw[eM];unfold nL;refine⟨by simp only;split<;>simp[h1],by simp[h2],λ n hn=>?_,h x⟩;obtain⟨g1,g2⟩:=h3 n hn;obtain⟨k1,k2⟩:=h3 (ak l x) (by omega);simp only;rw[Hr (by omega),Te];by_cases he:ak l x=n
  ·subst he;have e3:[x].filter (λ z=>ak l z==ak l x)=[x]:=by simp
   rw[No Y,e3,k1];refine⟨Y,?_⟩;by_cases h0:(ord.filter λ z=>ak l z==ak l x)=[]
   ·rw[h0,No (by rfl),eP (by omega)];rfl
   ·have hl0:¬ (ord.filter λ z=>ak l z==ak l x).length=0:=λ h'=>h0 (RM h');rw[M2 hl0,k2,tU l _ h0]
  ·have e3:[x].filter (λ z=>ak l z==n)=[]:=by simp[he]
   rw[M2 he,e3,SO];refine⟨g1,?_⟩;split
   ·rw[dE he];exact g2
   ·exact g2
def ER(l:List Nat):∀ ord:List Nat,Srt (ak l) ord->∀ x∈ord,ak l x<=(tabN l ord).2.2:=by
 refine jY (λ _ x h=>by cases h) λ ord y _ hs x hx=>?_;rw[eM];show ak l x<=ak l y;rcases RE.1 hx with hx|hx
 ·exact(Srt.append.1 hs).2.2 x hx y (by simp)
 ·simp at hx;subst hx;exact KD _
def fq(l:List Nat):List Nat×List (List Nat)×Nat:=tabN l (b8 l)
def Ht{l:List Nat}(h:GoodLens l){n:Nat}(hn:n<16):(fq l).2.1.getD n []=mg l n:=((eO l h.le (b8 l)).2.2.1 n hn).1
def Hu{l:List Nat}(h:GoodLens l){n:Nat}(hn:n<16):(fq l).1.getD n 0=tZ l n:=by
 rw[fq,((eO l h.le (b8 l)).2.2.1 n hn).2];show si l (mg l n)=tZ l n;unfold tZ si;cases mg l n<;>rfl
def Hv{l:List Nat}{x:Nat}(hx:0<ak l x):ak l x<=(fq l).2.2:=ER l _ (bW _) x (iZ l x hx)
def Ny{l:List Nat}(h:GoodLens l):(fq l).2.2<=15:=(eO l h.le (b8 l)).2.2.2
def Bq(F:List Nat)(S:List (List Nat))(v n k:Nat):Bool:=
 decide (0<(S.getD k []).length)&&decide (v<=(F.getD k 0+(S.getD k []).length-1)/2^(k-n))&&decide (F.getD k 0/2^(k-n)<=v)
def tV(F:List Nat)(S:List (List Nat))(lo v n:Nat):Bool:=(List.range' n (lo+1-n)).any (Bq F S v n)
def vi{F:List Nat}{S:List (List Nat)}{lo v n k:Nat}(h1:n<=k)(h2:k<=lo)(h:Bq F S v n k=true):tV F S lo v n=true:=by
 unfold tV;rw[V2];exact⟨k,by rw[mem_range'_1];omega,h⟩
def Br{F:List Nat}{S:List (List Nat)}{lo v n:Nat}(h:∀ k,n<=k->k<=lo->Bq F S v n k=false):tV F S lo v n=false:=by
 unfold tV;rw[any_eq_false];intro k hk;rw[mem_range'_1]at hk;simp[h k (by omega) (by omega)]
def KK{F:List Nat}{S:List (List Nat)}{lo v n:Nat}(h:tV F S lo v n=true):n<=lo:=by
 unfold tV at h;rw[V2]at h;obtain⟨k,hk,_⟩:=h;rw[mem_range'_1]at hk;omega
def iu(F:List Nat)(S:List (List Nat))(lo:Nat)(l:List Nat)(N:Nat):Nat->Nat->Nat->Nat->Nat×Nat×Nat
 |0,_,_,pos=>(0,9,pos)
 |f+1,n,v,pos=>
  if N<pos+1 then(0,10,pos)
  else if tV F S lo (2*v+rb l pos) n=false then(0,9,pos+1)
  else if F.getD n 0<=2*v+rb l pos/\2*v+rb l pos-F.getD n 0<(S.getD n []).length then((S.getD n []).getD (2*v+rb l pos-F.getD n 0) 0,0,pos+1)
  else iu F S lo l N f (n+1) (2*v+rb l pos) (pos+1)
def CE{l:List Nat}(h:GoodLens l){x:Nat}(hx:0<ak l x)(A B:List Bool):∀ (f n:Nat),f+n=17->1<=n->n<=ak l x->
  iu (fq l).1 (fq l).2.1 (fq l).2.2 (aE (A++aT (cA l x) (ak l x)++B)) (A++aT (cA l x) (ak l x)++B).length f n (o9 (aE (A++aT (cA l x) (ak l x)++B)) A.length (n-1)) (A.length+(n-1))=(x,0,A.length+ak l x)
 |0,n,hf,h1,hn=>by have:=h.le x;omega
 |f+1,n,hf,h1,hn=>by
  have hL:=h.le x;obtain⟨_,hcode⟩:=lU h hx;obtain⟨m,hm⟩:=Bz hx;have hml:=(IN.1 hm).1;have hfst:=sG h hm;have hlen:(A++aT (cA l x) (ak l x)++B).length=A.length+ak l x+B.length:=by simp[aH,Ti]
  have hv:2*o9 (aE (A++aT (cA l x) (ak l x)++B)) A.length (n-1)+rb (aE (A++aT (cA l x) (ak l x)++B)) (A.length+(n-1))=cA l x/2^(ak l x-n):=by
   have e:=pC A B (cA l x) (ak l x) hcode n hn;rw[<-e]
   conv=>rhs;rw[show n=(n-1)+1 by omega,o9]
  have hbvn:o9 (aE (A++aT (cA l x) (ak l x)++B)) A.length n=cA l x/2^(ak l x-n):=pC A B (cA l x) (ak l x) hcode n hn;rw[iu,hv,M2 (by omega)];have hbeg:tV (fq l).1 (fq l).2.1 (fq l).2.2 (cA l x/2^(ak l x-n)) n=true:=by
   refine vi hn (Hv hx) ?_;unfold Bq;rw[Ht h (by omega),Hu h (by omega)];simp only[RC,Ss];exact⟨⟨by omega,Ve (by omega)⟩,Ve (by omega)⟩
  rw[M2 (by rw[hbeg];simp),Ht h (by omega),Hu h (by omega)];rcases RG n (ak l x)with hlt|hge
  ·rw[M2]
   ·have ih:=CE h hx A B f (n+1) (by omega) (by omega) (by omega);rw[Sx,hbvn]at ih;rw[show A.length+(n-1)+1=A.length+n by omega];exact ih
   ·rintro⟨ha,hb⟩;have hy:(mg l n)[cA l x/2^(ak l x-n)-tZ l n]? =some (mg l n)[cA l x/2^(ak l x-n)-tZ l n]:=py hb;have h5:=sG h hy;exact F6 h hx hlt hy (by omega)
  ·have hne:n=ak l x:=by omega
   have e0:cA l x/2^(ak l x-n)=cA l x:=by rw[hne,Se];simp
   rw[e0,hne]at*;rw[No ⟨by omega,by omega⟩];have e1:cA l x-tZ l (ak l x)=m:=by omega
   have e2:(mg l (ak l x)).getD m 0=x:=getD_some hm;rw[e1,e2];simp only[RW,true_and];omega
def tW(F:List Nat)(S:List (List Nat))(lo:Nat)(l:List Nat)(N:Nat):Nat->Nat->List Nat->Option (List Nat×Nat)
 |0,pos,acc=>some (acc,pos)
 |c+1,pos,acc=>if(iu F S lo l N 16 1 0 pos).2.1≠0 then none else tW F S lo l N c (iu F S lo l N 16 1 0 pos).2.2 (acc++[(iu F S lo l N 16 1 0 pos).1])
def CF{l:List Nat}(h:GoodLens l):∀ (s:List Nat) (A:List Bool) (acc:List Nat) (bits:List Bool),(∀ x∈s,0<ak l x)->bits=A++bZ l s->
  tW (fq l).1 (fq l).2.1 (fq l).2.2 (aE bits) bits.length s.length A.length acc=some (acc++s,bits.length)
 |[],A,acc,bits,_,hb=>by subst hb;simp[tW,bZ]
 |x::r,A,acc,bits,hs,hb=>by
  have hx:=hs x (by simp);have hb2:bits=A++aT (cA l x) (ak l x)++bZ l r:=by rw[hb];simp[bZ]
  have h1:=CE h hx A (bZ l r) 16 1 Y (KD _) hx;rw[<-hb2,Se,o9,T7]at h1;have ih:=CF h r (A++aT (cA l x) (ak l x)) (acc++[x]) bits (λ y hy=>hs y (Sl _ hy)) hb2;rw[LW,tW,h1];simp only[ne_eq,not_true,SX];rw[sp,aH]at ih;rw[ih];simp
def tX(l b:List Nat)(bits count:Nat):Option (List Nat):=
 match tW (fq l).1 (fq l).2.1 (fq l).2.2 (b.take ((bits+7)/8)) bits count 0 []with
 |none=>none
 |some p=>if p.2=bits then some p.1 else none
def CG{l:List Nat}(h:GoodLens l)(s:List Nat)(hs:∀ x∈s,0<ak l x):tX l (aE (bZ l s)) (bZ l s).length s.length=some s:=by
 have:=CF h s [] [] (bZ l s) hs (by simp);unfold tX;rw[Ru (by rw[aK];exact KD _)];rw[Rp,Tj]at this;rw[this];simp
def yY(F:List Nat)(S:List (List Nat))(lo:Nat)(l:List Nat)(N:Nat):∀ f n v pos,pos<=N->(iu F S lo l N f n v pos).2.2<=N
 |0,_,_,_,h=>h
 |f+1,n,v,pos,h=>by
  rw[iu];split
  ·exact h
  ·split
   ·show pos+1<=N;omega
   ·split
    ·show pos+1<=N;omega
    ·exact yY F S lo l N f _ _ _ (by omega)
def yZ{α:Type}{l:List α}{x d:α}(h:x∈l):∃ n,n<l.length/\l.getD n d=x:=by
 obtain⟨n,hn,rfl⟩:=Vi.1 h;exact⟨n,hn,by simp[KP,hn]⟩
def Nz{l:List Nat}(h:GoodLens l):∀ x∈(fq l).1,x<2^15:=λ x hx=>by
 have hs:=eO l h.le (b8 l);obtain⟨n,hn,rfl⟩:=yZ (d:=0) hx;have hn16:n<16:=by have:=hs.1;unfold fq at hn;omega
 rw[Hu h hn16];cases hg:mg l n with
 |nil=>unfold tZ;rw[hg];exact SH 15
 |cons y r=>
  have hy:(mg l n)[0]? =some y:=by rw[hg];rfl
  have h1:=sG h hy;obtain⟨_,_,h3⟩:=jk h hy;have h4:2^n<=2^15:=Sc (by decide) (by omega);omega
def NA{l:List Nat}(h:GoodLens l):∀ q∈(fq l).2.1,q.length<=l.length:=λ q hq=>by
 have hs:=eO l h.le (b8 l);obtain⟨n,hn,rfl⟩:=yZ (d:=[]) hq;have hn16:n<16:=by have:=hs.2.1;unfold fq at hn;omega
 rw[Ht h hn16];exact RV (VL _ _) (gz l)
