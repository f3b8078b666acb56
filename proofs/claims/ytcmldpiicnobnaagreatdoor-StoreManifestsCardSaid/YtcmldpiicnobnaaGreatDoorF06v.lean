/-The walks of the functions of F06v,printed by our own program (kwgen.py) out of our descriptions (base.py). -/
import Derived.Test.YtcmldpiicnobnaaGreatDoorF42n
import Derived.Test.YtcmldpiicnobnaaGreatDoorM06
import Derived.Test.YtcmldpiicnobnaaGreatDoorM41b
set_option linter.all false
set_option maxRecDepth 100000
open List
open Go.Proofs.Tryz
namespace Go.Proofs.YtcmldpiicnobnaaGreatDoor
open Go.RowKit Go.Kw
def yy{α:Type}{l:List α}{k:Nat}{x:α}(hx:l[k]? =some x):∃ y,0<k->l[k-1]? =some y:=by
 have h:=(sp.1 hx).1;exact⟨l[k-1]'(by omega),λ _=>py _⟩
def xk{s:ByteArray}(h:iX s=true):s.size<=120/\gj s=true/\(∀ u∈fY s.data.toList,31<u.r/\u.r≠127)/\∀ c∈s.data.toList,32<=c.toNat/\c.toNat≠127:=by
 unfold iX at h;simp only[OK,PI,Pn]at h;exact⟨h.1,h.2.1,h.2.2.1,h.2.2.2⟩
def gd(s:ByteArray)(w:World)(hv:iX s=true):
  CallsV prog 196 [(.string s)] w λ r w'=>r= .int .i64 ((0:Nat):Int)/\Sat w [] w':=by
 obtain⟨hz,hvn,-,hby⟩:=xk hv;have hs0:=Sat.start w;refine ay func196 J J ?_;refine .Z J<|.seq<|.h<|.a 1 J (.bj underlying9 J)<|.Z J<|.az J (KG (by omega))<|.skip<|.seq<|.h<|.cp 1 hs0 (lE s _ (by omega)) J λ _ s1=>.e J (.cO J)<|.nil<|.az J (by simp[hvn])<|.skip<|.seq<|.h<|.b 1 J (.gR underlying9 underlying43 underlying5 s1 J (by omega) λ v1 _ s2=>?_);refine .ln 0 (s2.gG 0 J) J<|.Z J<|.block<|.lq [0,12,13] J (α:=Nat) (λ k=>[(14,(.int .i64 k))]) (λ k w'=>Sat w s2.L w') (λ k=>(aF s).length-k) 0 s2 ?_;rintro k w3 s3;refine .Z J<|.seq<|.a8 J (λ c1=>?_) λ c1=>?_
 ·refine .skip<|.seq<|.block<|.seq ?_;obtain⟨x,hx⟩:∃ x,(aF s)[k]? =some x:=⟨_,py c1⟩;obtain⟨c,hc,hcx⟩:=Ps.1 (show x∈s.data.toList.map UInt8.toNat from a6 hx);have hxb:=hby c hc;have hsl:=aj s;refine .region<|.ix 0 (s3.gG 0 J) J<|.le 0 (s3.gG 0 J) hx J<|.Z J<|.seq<|.cu 23 ((x<32)\/(x=127)) ?_ ?_
  ·refine .z 3 J<|.B 20 J (λ g1=>?_) λ g1=>?_
   ·refine .M J (by simp[g1])
   refine .M J (by simp[g1])
  refine .az J (KG (by omega))<|.skip<|.U J ?_;exact ba (k+1) s3
 refine .ak<|.Z J<|.aC J J ?_;exact⟨J,s3.pk []⟩
def LB(s:ByteArray)(a b:Nat):(s.extract a b).data.toList=(s.data.toList.take b).drop a:=by
 rw[Lib.extract_data,drop_take]
def Ca{s:List UInt8}{i:Nat}{b:UInt8}(hb:s[i]? =some b)(h:b.toNat≠124):oy s (i+1)=oy s i:=by
 rw[oy,OB];rintro⟨_,h2⟩;rw[hb]at h2;cases h2;exact h J
def yz{s:List UInt8}{i:Nat}{b:UInt8}(hi:1<=i)(hb:s[i]? =some b)(h:¬ b.toNat≠124):oy s (i+1)=(i+1,(oy s i).2++[(s.take i).drop (oy s i).1]):=by
 have e:b=124:=Rw.1 (show b.toNat=(124:UInt8).toNat from Po.1 h);rw[oy,Ow ⟨by omega,by rw[hb,e]⟩]
def xl(s:ByteArray)(w:World)(hset:yY s):
  CallsV prog 195 [(.string s)] w λ r w'=>∃ v,r= .tuple #[v,.int .i64 ((0:Nat):Int)]/\Sat w [] w':=by
 have hsz0:=k7 hset.1;have hsz1:1<=s.size:=(sp.1 hset.2.1).1;have hs0:=Sat.start w;refine ay func195 J J ?_;refine .Z J<|.seq<|.h<|.cp 1 hs0 (gd s _ (hset.1)) J λ _ s1=>.Z J<|.Z J<|.az J (J)<|.skip<|.h<|.a 1 J (.bj underlying9 J)<|.Z J<|.seq<|.h<|.z 3 J<|.Gf 19 J (KG (by omega))<|.a 1 J (.hG underlying9 J J hset.2.1)<|.z 3 J<|.Gf 24 J (KG (λ h=>h J))<|.a 3 J (.hG underlying9 J J hset.2.2.1)<|.Z J<|.az J (KG (λ h=>h J))<|.skip<|.Z J<|.Z J<|.seq<|.Z J<|.block ?_;have s2:=s1.ao 9 (ah);refine .lp [0,4,5] J (α:=Nat×Value×List ByteArray) (λ(i,ov,L)=>[(6,ov),(7,(.int .i64 ((oy s.data.toList i).1:Nat))),(8,(.int .i64 i))]) (λ(i,ov,L) w'=>Sat w [cL ov 9 (ah) (L)] w'/\(1<=i)/\(L.map (·.data.toList)=(oy s.data.toList i).2)/\(i<=s.size)/\(L.length<=i)) (λ(i,ov,L)=>s.size-i) (1,(.slice none 0 0),[]) ⟨J,If some (If (Value.int .i64) (by simp[oy])),J,J,J,J,trivial⟩ ⟨s2,KP _,by simp[oy],hsz1,IN _⟩ ?_;rintro⟨i,ov,L⟩ w2 ⟨s3,hi,hL,hle,hLl⟩;refine .seq<|.Z J<|.a8 J (λ c1=>?_) λ c1=>?_
 ·refine .skip<|.seq<|.block<|.seq<|.seq ?_;obtain⟨b,hb⟩:∃ b,s.data.toList[i]? =some b:=⟨_,py (show i<s.data.toList.length from c1)⟩;refine .region<|.a 2 J (.hG underlying9 J J hb)<|.Z J<|.a8 J (λ c2=>?_) λ c2=>?_
  ·refine .ak<|.U J ?_;exact⟨(i+1,ov,L),⟨J,If (λ q:Nat×List (List UInt8)=>some (Value.int .i64 (q.1:Int))) (Ca hb c2).symm,J,J,J,J,trivial⟩,⟨s3,by omega,by rw[Ca hb c2];exact hL,by omega,by omega⟩,by dsimp only;omega⟩
  refine .skip<|.seq<|.seq ?_;have hfl:=DA s.data.toList i;have hbb:=c2;refine .U J<|.az J (KG (λ h=>hset.2.2.2.1 i hi (by rw[hb,show b=124 from Rw.1 (Po.1 hbb)]) h.symm))<|.skip<|.h<|.a 4 J (.fA (l:=(oy s.data.toList i).1) (h:=i) underlying9 J ⟨_,J⟩ ⟨_,J⟩ (by omega) (by omega))<|.f J (.cE (ah) (s.extract ((oy s.data.toList i).1) i) bo J s3 J λ v1 _ s4 _=>?_);refine .ap 0 s4 0 (s4.aa 1 J) J λ v2 _ s5 _=>?_;refine .Z J<|.U J<|.U J ?_;exact⟨(i+1,v2,L++[(s.extract ((oy s.data.toList i).1) i)]),⟨J,If (λ q:Nat×List (List UInt8)=>some (Value.int .i64 (q.1:Int))) (yz hi hb c2).symm,J,J,J,J,trivial⟩,⟨s5.pk [0],by omega,by rw[yz hi hb c2,Pw,hL];exact If _ (If (λ q=>[q]) (LB s _ i)),by omega,by rw[AT];simp only[KV];omega⟩,by dsimp only;omega⟩
 refine .ak<|.seq<|.seq ?_;have hLz:L.map (·.data.toList)=(oy s.data.toList s.size).2:=by rw[show s.size=i by omega];exact hL
 refine .U J<|.block<|.lq [0,4,5,6,7,8] J (α:=Nat) (λ j=>[(9,(.int .i64 j))]) (λ j w'=>Sat w s3.L w'/\(1<=j)) (λ j=>L.length-j) 1 ⟨s3,KP _⟩ ?_;rintro j w5 ⟨s6,hj⟩;refine .seq<|.h<|.ln 2 (s6.aa 0 J) J<|.Z J<|.a8 J (λ c3=>?_) λ c3=>?_
 ·refine .skip<|.seq<|.block<|.seq ?_;obtain⟨y,hy⟩:∃ y,L[j-1]? =some y:=⟨_,py (by omega)⟩;obtain⟨x,hx⟩:∃ x,L[j]? =some x:=⟨_,py c3⟩;have hlt:SLt y x:=hset.2.2.2.2 (j-1) y.data.toList x.data.toList (by rw[<-hLz,OT,hy]<;>rfl) (by rw[<-hLz,OT,show j-1+1=j by omega,hx]<;>rfl);refine .dk [0] s6 J (pl [0,1,2,3,4,5,6,7,8,9] .fin) λ s7 S1=>.ix 3 S1 (·.aa 0 J) J<|.le 0 S1 (·.aa 0 J) hy J<|.ix 2 S1 (·.aa 0 J) J<|.le 0 S1 (·.aa 0 J) hx J<|.e J (λ _ hS=>.qN J J) S1<|.fin<|.az J (KG (λ h=>h hlt))<|.skip<|.U J ?_;exact ba (j+1) ⟨s7,by omega⟩
 refine .ak<|.Z J<|.bp J J J ?_;exact⟨_,J,s6.pk []⟩
def xm(a:ByteArray×Bool)(v:ByteArray)(w:World)(h:okV a v):
  CallsV prog 168 [((aE).ag a),(.string v)] w λ r w'=>r= .int .i64 ((0:Nat):Int)/\Sat w [] w':=by
 refine bQ func168 J λ hs0=>.h<|.bx 0 hs0 J λ b1 _ s1 _ _=>.Z J<|.seq<|.h<|.ld 1 s1 0 J<|.nil<|.cond J (λ c1=>?_) (λ c1=>?_)
 ·refine .h<|.c 1 (xl v _ (h.2 (by simpa using c1))) J λ r1 _ h1=>?_;obtain⟨pv1,rfl,p1⟩:=h1;have s2:=s1.au p1;refine .Z J<|.Z J<|.aC J J ?_;exact⟨J,s2.pk []⟩
 refine .skip<|.h<|.cp 1 s1 (gd v _ (h.val)) J λ _ s4=>.Z J<|.aC J J ?_;exact⟨J,s4.pk []⟩
def rz(v:Value)(l:List Pr)(w:World)(hv:RdL w v bK l)(h:okPs l):
  CallsV prog 169 [v] w λ r w'=>r= .int .i64 ((0:Nat):Int)/\Sat w [] w':=by
 refine bQ func169 J λ hs0=>.Z J<|.seq<|.seq ?_;have hl8:=h.1;refine .region<|.ln 1 (hv.ext hs0.ext) J<|.Z J<|.az J (KG (by have:=h.1;omega))<|.skip<|.seq<|.h<|.ln 1 (hv.ext hs0.ext) J<|.Z J<|.block<|.lq [0,9,10] J (α:=Nat) (λ k=>[(11,(.int .i64 k))]) (λ k w'=>Sat w [] w') (λ k=>l.length-k) 0 hs0 ?_;rintro k w1 s1;refine .Z J<|.seq<|.a8 J (λ c1=>?_) λ c1=>?_
 ·refine .skip<|.seq<|.block<|.seq ?_;obtain⟨x,hx⟩:∃ x,(l)[k]? =some x:=⟨_,py c1⟩;have hxo:=h.2.1 x (a6 hx);refine .region<|.ix 1 (hv.ext s1.ext) J<|.lg 0 (hv.ext s1.ext) hx J<|.al 0 s1 J λ b1 _ s2 _ _=>.sa 1 s2 0 J ((bK).one _) λ _ s3 _=>.nil<|.seq<|.block<|.h<|.ld 1 s3 0 J<|.cq 0 s3 (cP x.1 _) J λ _ s4=>.e J (.cO J)<|.Z J<|.az J (by simp[hxo.1])<|.seq ?_;obtain⟨y,hy⟩:=yy hx;refine .md [0,3,4,9,10,11] J (λ K L' w'=>Weak ([(21,(.bool (decide ((0<k)/\(¬ SLt y.1 x.1)))))]++K) L'/\Sat w s4.L w') ?_ ?_
  ·refine .dk [0] s4 J (pl [0,1,2,3,4,5,6,7,8,9,10,11,12,13] .fin) λ s5 S1=>.z 3 S1 J<|.B 24 J (λ g1=>?_) λ g1=>?_
   ·refine .ix 3 S1 (hv.ext ·.ext) J<|.fl 0 S1 (hv.ext ·.ext) J<|.lf 0 S1 (hv.ext ·.ext) (hy (by omega)) J<|.ld 1 S1 0 J<|.a 0 S1 J (λ _ s=>.qN J J)<|.Z S1 J ?_;exact⟨⟨If some (If Value.bool (by simp[g1])),J,J,J,J,J,J,trivial⟩,s5⟩
   refine .Z S1 J ?_;exact⟨⟨If some (If Value.bool (by simp[g1])),J,J,J,J,J,J,trivial⟩,s5⟩
  rintro L' w5 ⟨hw1,s6⟩;refine .weaken _ hw1<|.az J (KG (λ h9=>h9.2 (h.2.2 (k-1) y x (hy h9.1) (by rw[show k-1+1=k by omega];exact hx))))<|.skip<|.h<|.ld 1 s6 0 J<|.cp 0 s6 (gd x.2 _ (hxo.2)) J λ _ s7=>.Z J<|.Z J<|.az J (J)<|.skip<|.U J ?_;exact ba (k+1) (s7.pk [])
 refine .ak<|.Z J<|.aC J J ?_;exact⟨J,s1.pk []⟩
def mZ{a b:List Pr}{k:Nat}{p q:Pr}(hp:a[k]? =some p)(hq:b[k]? =some q):kf (a.drop k) (b.drop k)=if eO p.1 q.1≠0 then eO p.1 q.1 else if eO p.2 q.2≠0 then eO p.2 q.2 else kf (a.drop (k+1)) (b.drop (k+1)):=by
 obtain⟨h1,rfl⟩:=sp.1 hp;obtain⟨h2,rfl⟩:=sp.1 hq;rw[OZ h1,OZ h2,kf]
def ui{a b:List Pr}{k:Nat}(h1:k<=a.length)(h2:k<=b.length)(h:¬ (k<a.length/\k<b.length)):kf (a.drop k) (b.drop k)=ek (a.length:Int) (b.length:Int):=by
 unfold ek;rcases OI k a.length with q|q
 ·have e:k=b.length:=by omega
  rw[OZ q,show b.drop k=[]from P8 (by omega),kf,OB (by omega),Ow (by omega)]
 rw[P8 q];rcases OI k b.length with q2|q2
 ·rw[OZ q2,kf,Ow (by omega)]
 rw[P8 q2,kf,OB (by omega),OB (by omega)]
def sO{a b:ByteArray}(h:a≠b):eO a b≠0:=λ h9=>h (Bp h9)
def oU(a b:ByteArray)(w:World):
  CallsV prog 162 [(.string a),(.string b)] w λ r w'=>r= .int .i64 (eO a b)/\Sat w [] w':=by
 refine bQ func162 J λ hs0=>.Z J<|.seq<|.block<|.h<|.a 2 J (.qK J J)<|.Z J<|.a8 J (λ c1=>?_) λ c1=>?_
 ·refine .Z J<|.aC J J ?_;exact⟨by unfold eO;rw[Ow c1],hs0.pk []⟩
 refine .h<|.a 2 J (.Lh J J)<|.Z J<|.a8 J (λ c2=>?_) λ c2=>?_
 ·refine .Z J<|.aC J J ?_;exact⟨by unfold eO;rw[OB c1,Ow c2]<;>rfl,hs0.pk []⟩
 refine .skip<|.Z J<|.aC J J ?_;exact⟨by unfold eO;rw[OB c1,OB c2]<;>rfl,hs0.pk []⟩
def oV(b:Bool)(w:World):
  CallsV prog 161 [(.bool b)] w λ r w'=>r= .int .i64 (if b then-1 else 1)/\Sat w [] w':=by
 refine bQ func161 J λ hs0=>.Z J<|.seq<|.Z J<|.cond J (λ c1=>?_) (λ c1=>?_)
 ·refine .Z J<|.aC J J ?_;exact⟨by rw[c1]<;>rfl,hs0.pk []⟩
 refine .skip<|.Z J<|.aC J J ?_;exact⟨by rw[c1]<;>rfl,hs0.pk []⟩
def uj(x y:Iv)(w:World)(hvx:RdL w x.sv.val bK x.ps)(hvy:RdL w y.sv.val bK y.ps)(hlx:x.ps.length<=1000)(hly:y.ps.length<=1000):
  CallsV prog 119 [((aR).ag x),((aR).ag y)] w λ r w'=>r= .int .i64 (fq x y)/\Sat w [] w':=by
 have hs0:=Sat.start w;refine ay func119 J J ?_;refine .h<|.bx 0 hs0 J λ b1 _ s1 _ _=>.bx 0 s1 J λ b2 _ s2 _ _=>.Z J<|.seq<|.block<|.h<|.ld 1 s2 0 J<|.ld 1 s2 1 J<|.e J (.neq J J)<|.Z J<|.a8 J (λ c1=>?_) λ c1=>?_
 ·refine .h<|.ld 1 s2 0 J<|.ld 1 s2 1 J<|.e J (.lss J J)<|.cq 0 s2 (oV (decide ((x.b:Int)<(y.b:Int))) _) J λ _ s3=>.Z J<|.aC J J ?_;exact⟨by unfold fq;rw[Ow (show ek x.b y.b≠0 by unfold ek;omega)];unfold ek;simp only[PI];split;rfl;rw[Ow (by omega)],s3.pk []⟩
 refine .h<|.ld 1 s2 0 J<|.ld 1 s2 1 J<|.e J (.neq J J)<|.Z J<|.a8 J (λ c2=>?_) λ c2=>?_
 ·refine .h<|.ld 1 s2 0 J<|.ld 1 s2 1 J<|.e J (.gtr J J)<|.cq 0 s2 (oV (decide ((y.e:Int)<(x.e:Int))) _) J λ _ s5=>.Z J<|.aC J J ?_;exact⟨by unfold fq;rw[OB (show¬ ek x.b y.b≠0 by unfold ek;omega),Ow (show ek y.e x.e≠0 by unfold ek;omega)];unfold ek;simp only[PI];split;rfl;rw[Ow (by omega)],s5.pk []⟩
 refine .seq ?_;have hci2:fq x y=if eO x.nm y.nm≠0 then eO x.nm y.nm else kf x.ps y.ps:=by unfold fq;rw[OB (show¬ ek x.b y.b≠0 by unfold ek;omega),OB (show¬ ek y.e x.e≠0 by unfold ek;omega)]
 refine .region<|.ld 1 s2 0 J<|.ld 1 s2 1 J<|.e J (.bO J J)<|.Z J<|.a8 J (λ c3=>?_) λ c3=>?_
 ·refine .h<|.ld 1 s2 0 J<|.ld 1 s2 1 J<|.cq 0 s2 (oU (x.nm) (y.nm) _) J λ _ s7=>.Z J<|.aC J J ?_;exact⟨by rw[hci2,Ow (sO c3)],s7.pk []⟩
 refine .skip<|.seq<|.seq ?_;have hci3:fq x y=kf x.ps y.ps:=by rw[hci2,OB (by rw[show x.nm=y.nm by simpa using c3,jP];simp)]
 refine .U J<|.block<|.lq [0,1,2,3] J (α:=Nat) (λ k=>[(5,(.int .i64 k))]) (λ k w'=>Sat w s2.L w'/\(k<=x.ps.length)/\(k<=y.ps.length)/\(kf x.ps y.ps=kf (x.ps.drop k) (y.ps.drop k))) (λ k=>x.ps.length-k) 0 ⟨s2,IN _,IN _,J⟩ ?_;rintro k w6 ⟨s9,hka,hkb,hk⟩;refine .seq<|.seq<|.cu 52 ((k<x.ps.length)/\(k<y.ps.length)) ?_ ?_
 ·refine .ld 2 s9 0 J<|.ln 0 (hvx.ext s9.ext) J<|.z 2 J<|.B 46 J (λ g1=>?_) λ g1=>?_
  ·refine .ld 2 s9 1 J<|.ln 0 (hvy.ext s9.ext) J<|.M J (by simp[g1])
  refine .M J (by simp[g1])
 refine .a8 J (λ c4=>?_) λ c4=>?_
 ·refine .skip<|.seq<|.block<|.seq<|.seq ?_;obtain⟨p,hp⟩:∃ p,x.ps[k]? =some p:=⟨_,py c4.1⟩;obtain⟨q,hq⟩:∃ q,y.ps[k]? =some q:=⟨_,py c4.2⟩;refine .dk [0,1] s9 J (pl [0,1,2,3,4,5,6,7,8,9,10,11,12] .fin) λ s10 S1=>.ld 1 S1 0 J<|.ix 1 S1 (hvx.ext ·.ext) J<|.fl 0 S1 (hvx.ext ·.ext) J<|.lf 0 S1 (hvx.ext ·.ext) hp J<|.ld 1 S1 1 J<|.ix 1 S1 (hvy.ext ·.ext) J<|.fl 0 S1 (hvy.ext ·.ext) J<|.lf 0 S1 (hvy.ext ·.ext) hq J<|.e J (λ _ s=>.bO J J) S1<|.fin<|.a8 J (λ c5=>?_) λ c5=>?_
  ·refine .seq<|.dk [0,1] s10 J (pl [0,1,2,3,4,5,6,7,8,9,10,11,1012,13] .fin) λ s11 S2=>.ld 1 S2 0 J<|.ix 1 S2 (hvx.ext ·.ext) J<|.fl 0 S2 (hvx.ext ·.ext) J<|.lf 0 S2 (hvx.ext ·.ext) hp J<|.ld 1 S2 1 J<|.ix 1 S2 (hvy.ext ·.ext) J<|.fl 0 S2 (hvy.ext ·.ext) J<|.lf 0 S2 (hvy.ext ·.ext) hq J<|.c 0 S2 (oU (p.1) (q.1) _) J λ r4 _ h4=>?_;obtain⟨rfl,p4⟩:=h4;have s12:=(s11.au p4).nn;have S3:=s12.pk [0,1];refine⟨S3,?_⟩;refine .Z S3 J<|.aC J J ?_;exact⟨by rw[hci3,hk,mZ hp hq,Ow (sO c5)],s12.pk []⟩
  refine .skip<|.seq<|.dk [0,1] s10 J (pl [0,1,2,3,4,5,6,7,8,9,10,11,12] .fin) λ s14 S4=>.ld 1 S4 0 J<|.ix 1 S4 (hvx.ext ·.ext) J<|.fl 0 S4 (hvx.ext ·.ext) J<|.lf 0 S4 (hvx.ext ·.ext) hp J<|.ld 1 S4 1 J<|.ix 1 S4 (hvy.ext ·.ext) J<|.fl 0 S4 (hvy.ext ·.ext) J<|.lf 0 S4 (hvy.ext ·.ext) hq J<|.e J (λ _ s=>.bO J J) S4<|.fin<|.a8 J (λ c6=>?_) λ c6=>?_
  ·refine .seq<|.dk [0,1] s14 J (pl [0,1,2,3,4,5,6,7,8,9,10,11,1012,13] .fin) λ s15 S5=>.ld 1 S5 0 J<|.ix 1 S5 (hvx.ext ·.ext) J<|.fl 0 S5 (hvx.ext ·.ext) J<|.lf 0 S5 (hvx.ext ·.ext) hp J<|.ld 1 S5 1 J<|.ix 1 S5 (hvy.ext ·.ext) J<|.fl 0 S5 (hvy.ext ·.ext) J<|.lf 0 S5 (hvy.ext ·.ext) hq J<|.c 0 S5 (oU (p.2) (q.2) _) J λ r5 _ h5=>?_;obtain⟨rfl,p5⟩:=h5;have s16:=(s15.au p5).nn;have S6:=s16.pk [0,1];refine⟨S6,?_⟩;refine .Z S6 J<|.aC J J ?_;exact⟨by rw[hci3,hk,mZ hp hq,OB (by rw[show p.1=q.1 by simpa using c5,jP];simp),Ow (sO c6)],s16.pk []⟩
  refine .skip<|.U J ?_;exact ba (k+1) ⟨s14,by omega,by omega,by rw[hk,mZ hp hq,OB (by rw[show p.1=q.1 by simpa using c5,jP];simp),OB (by rw[show p.2=q.2 by simpa using c6,jP];simp)]⟩
 refine .ak<|.seq<|.h<|.ld 1 s9 0 J<|.ln 0 (hvx.ext s9.ext) J<|.ld 1 s9 1 J<|.ln 0 (hvy.ext s9.ext) J<|.Z J<|.a8 J (λ c7=>?_) λ c7=>?_
 ·refine .h<|.ld 1 s9 0 J<|.ln 0 (hvx.ext s9.ext) J<|.ld 1 s9 1 J<|.ln 0 (hvy.ext s9.ext) J<|.cq 1 s9 (oV (decide (x.ps.length<y.ps.length)) _) J λ _ s18=>.Z J<|.aC J J ?_;exact⟨by rw[hci3,hk,ui hka hkb c4];unfold ek;simp only[PI];split;rw[Ow (by omega)];rw[OB (by omega),Ow (by omega)],s18.pk []⟩
 refine .skip<|.Z J<|.aC J J ?_;exact⟨by rw[hci3,hk,ui hka hkb c4];unfold ek;rw[OB (by omega),OB (by omega)]<;>rfl,s9.pk []⟩
def Ar(v:Value)(l:List (ByteArray×Bool))(w:World)(hv:RdL w v aE l)(h:atsOk l):
  CallsV prog 128 [v] w λ r w'=>r= .tuple #[.int .i64 ((0:Nat):Int),.int .i64 ((0:Nat):Int)]/\Sat w [] w':=by
 have hat:=h.2;have hs0:=Sat.start w;refine ay func128 J J ?_;refine .Z J<|.seq<|.h<|.ln 1 (hv.ext hs0.ext) J<|.Z J<|.az J (KG (by omega))<|.skip<|.seq<|.h<|.ln 1 (hv.ext hs0.ext) J<|.Z J<|.az J (KG (by omega))<|.skip<|.seq<|.h<|.ln 1 (hv.ext hs0.ext) J<|.Z J<|.block<|.lq [0,14,15] J (α:=Nat) (λ k=>[(16,(.int .i64 k))]) (λ k w'=>Sat w [] w') (λ k=>l.length-k) 0 hs0 ?_;rintro k w1 s1;refine .Z J<|.seq<|.a8 J (λ c1=>?_) λ c1=>?_
 ·refine .skip<|.seq<|.block<|.seq ?_;obtain⟨x,hx⟩:∃ x,(l)[k]? =some x:=⟨_,py c1⟩;refine .region<|.ix 1 (hv.ext s1.ext) J<|.lg 0 (hv.ext s1.ext) hx J<|.al 0 s1 J λ b1 _ s2 _ _=>.sa 1 s2 0 J ((aE).one _) λ _ s3 _=>.nil<|.seq<|.h<|.ld 1 s3 0 J<|.cq 0 s3 (cP x.1 _) J λ _ s4=>.e J (.cO J)<|.nil<|.az J (by simp[(h.1 k x hx).1])<|.skip<|.h<|.a 2 J (.aV (E:=aE) (a:=0) (c:=k) jF J (hv.ext s4.ext) J ⟨_,J⟩ (IN _) (by omega))<|.ln 0 (((hv.ext s4.ext)).sub (a:=0) (b:=k) (IN _) (by omega)) J<|.Z J<|.block<|.lq [0,4,5,14,15,16,28,29] J (α:=Nat) (λ j=>[(30,(.int .i64 j))]) (λ j w'=>Sat w s4.L w') (λ j=>(((l).take k).drop 0).length-j) 0 s4 ?_;rintro j w5 s5;refine .Z J<|.seq<|.a8 J (λ c2=>?_) λ c2=>?_
  ·refine .skip<|.seq<|.block<|.seq ?_;obtain⟨y,hy⟩:∃ y,(((l).take k).drop 0)[j]? =some y:=⟨_,py c2⟩;have hjl:(((l).take k).drop 0).length<=8:=by simp;omega
   refine .region<|.ix 0 (((hv.ext s5.ext)).sub (a:=0) (b:=k) (IN _) (by omega)) J<|.lg 0 (((hv.ext s5.ext)).sub (a:=0) (b:=k) (IN _) (by omega)) hy J<|.al 0 s5 J λ b2 _ s6 _ _=>.sa 0 s6 1 J ((aE).one _) λ _ s7 _=>.nil<|.h<|.ld 1 s7 0 J<|.ld 1 s7 1 J<|.e J (.cY J J)<|.nil<|.az J (KG (λ e=>JZ h hx hy e.symm))<|.skip<|.U J ?_;exact ba (j+1) (s7.pk [0])
  refine .ak<|.U J ?_;exact ba (k+1) (s5.pk [])
 refine .ak<|.Z J<|.bp J J J ?_;exact⟨J,s1.pk []⟩
def xn(c:Co)(n:Nat)(w:World)(hr:RdC w c)(ho:OkC n c)(hn:n<=4):
  CallsV prog 129 [(.agg #[c.va,c.vt,c.vx,c.vr,c.vn,c.vh,c.vl])] w λ r w'=>r= .tuple #[.int .i64 ((0:Nat):Int),.int .i64 ((0:Nat):Int)]/\Sat w [] w':=by
 have htk:=ho.ntk;have htx:=ho.ntx;have hrg:=ho.nrg;have hnd:=ho.nnd;have hat:=ho.at_.2;have hs0:=Sat.start w;refine ay func129 J J ?_;refine .h<|.bx 0 hs0 J λ b1 _ s1 _ _=>.Z J<|.seq<|.h<|.ld 1 s1 0 J<|.ln 0 (hr.t.ext s1.ext) J<|.Z J<|.az J (KG (by omega))<|.skip<|.seq<|.h<|.ld 1 s1 0 J<|.ln 0 (hr.t.ext s1.ext) J<|.Z J<|.block<|.lq [0,1,14,15] J (α:=Nat) (λ k=>[(16,(.int .i64 k))]) (λ k w'=>Sat w s1.L w') (λ k=>c.tk.length-k) 0 s1 ?_;rintro k w2 s2;refine .Z J<|.seq<|.a8 J (λ c1=>?_) λ c1=>?_
 ·refine .skip<|.seq<|.block<|.seq ?_;obtain⟨x,hx⟩:∃ x,(c.tk)[k]? =some x:=⟨_,py c1⟩;have htl:=(ho.tk x (a6 hx)).1;refine .region<|.ix 1 (hr.t.ext s2.ext) J<|.le 0 (hr.t.ext s2.ext) hx J<|.Z J<|.seq<|.h<|.ln 1 ((hr.tr _ (a6 hx)).ext s2.ext) J<|.ld 1 s2 0 J<|.ln 0 (hr.a.ext s2.ext) J<|.Z J<|.az J (KG (λ h=>h (ho.tk x (a6 hx)).1))<|.skip<|.h<|.ln 1 ((hr.tr _ (a6 hx)).ext s2.ext) J<|.Z J<|.block<|.lq [0,1,4,5,14,15,16,28,29] J (α:=Nat) (λ j=>[(30,(.int .i64 j))]) (λ j w'=>Sat w s2.L w') (λ j=>x.ns.length-j) 0 s2 ?_;rintro j w3 s3;refine .Z J<|.seq<|.a8 J (λ c2=>?_) λ c2=>?_
  ·refine .skip<|.seq<|.block<|.seq ?_;obtain⟨v,hv⟩:∃ v,(x.ns)[j]? =some v:=⟨_,py c2⟩;obtain⟨a,ha⟩:∃ a,c.at_[j]? =some a:=⟨_,py (by omega)⟩;refine .region<|.ix 1 ((hr.tr _ (a6 hx)).ext s3.ext) J<|.le 0 ((hr.tr _ (a6 hx)).ext s3.ext) hv J<|.Z J<|.h<|.ld 1 s3 0 J<|.ix 1 (hr.a.ext s3.ext) J<|.lg 0 (hr.a.ext s3.ext) ha J<|.cp 1 s3 (xm a v _ ((ho.tk x (a6 hx)).2 j v a hv ha)) J λ _ s4=>.Z J<|.Z J<|.az J (J)<|.skip<|.U J ?_;exact ba (j+1) s4
  refine .ak<|.U J ?_;exact ba (k+1) s3
 refine .ak<|.Z J<|.bp J J J ?_;exact⟨J,s2.pk []⟩
def As(c:Co)(n:Nat)(w:World)(hr:RdC w c)(ho:OkC n c)(hn:n<=4):
  CallsV prog 130 [(.agg #[c.va,c.vt,c.vx,c.vr,c.vn,c.vh,c.vl])] w λ r w'=>r= .tuple #[.int .i64 ((0:Nat):Int),.int .i64 ((0:Nat):Int)]/\Sat w [] w':=by
 have htk:=ho.ntk;have htx:=ho.ntx;have hrg:=ho.nrg;have hnd:=ho.nnd;have hat:=ho.at_.2;have hs0:=Sat.start w;refine ay func130 J J ?_;refine .h<|.bx 0 hs0 J λ b1 _ s1 _ _=>.Z J<|.h<|.ld 1 s1 0 J<|.ln 0 (hr.t.ext s1.ext) J<|.Z J<|.seq<|.h<|.ld 1 s1 0 J<|.ln 0 (hr.x.ext s1.ext) J<|.Z J<|.az J (KG (by omega))<|.skip<|.seq<|.h<|.ld 1 s1 0 J<|.ln 0 (hr.x.ext s1.ext) J<|.a 3 J (.MG underlying4 J J)<|.nil<|.az J (ho.tx.lens)<|.skip<|.Z J<|.seq<|.h<|.ld 1 s1 0 J<|.ln 0 (hr.x.ext s1.ext) J<|.Z J<|.block<|.lq [0,1,4,26,27] J (α:=Nat×Int) (λ(k,en)=>[(5,(.int .i64 (en))),(28,(.int .i64 k))]) (λ(k,en) w'=>Sat w s1.L w'/\(∀ x,c.tx[k]? =some x->x.b=en)) (λ(k,en)=>c.tx.length-k) (0,0) ⟨s1,ho.tx.first⟩ ?_;rintro⟨k,en⟩ w2 ⟨s2,hen⟩;refine .Z J<|.seq<|.a8 J (λ c1=>?_) λ c1=>?_
 ·refine .skip<|.seq<|.block<|.seq ?_;obtain⟨x,hx⟩:∃ x,(c.tx)[k]? =some x:=⟨_,py c1⟩;have hxo:=ho.tx.nm x (a6 hx);refine .region<|.ix 1 (hr.x.ext s2.ext) J<|.lg 0 (hr.x.ext s2.ext) hx J<|.al 0 s2 J λ b2 _ s3 _ _=>.sa 1 s3 1 J ((aR).one _) λ _ s4 _=>?_;have s4:=s4.nn;refine .nil<|.seq<|.h<|.ld 1 s4 1 J<|.cp 0 s4 (cP x.nm _) J λ _ s5=>.e J (.cO J)<|.nil<|.az J (by simp[hxo.1])<|.skip<|.seq<|.h<|.ld 1 s5 0 J<|.a 1 J (.aV (E:=aR) (a:=0) (c:=k) lr J (hr.x.ext s5.ext) J ⟨_,J⟩ (IN _) (by omega))<|.ln 0 (((hr.x.ext s5.ext)).sub (a:=0) (b:=k) (IN _) (by omega)) J<|.Z J<|.block<|.lq [0,1,4,5,6,7,26,27,28,41,42] J (α:=Nat) (λ j=>[(43,(.int .i64 j))]) (λ j w'=>Sat w s5.L w') (λ j=>(((c.tx).take k).drop 0).length-j) 0 s5 ?_;rintro j w6 s6;refine .Z J<|.seq<|.a8 J (λ c2=>?_) λ c2=>?_
  ·refine .skip<|.seq<|.block<|.seq ?_;obtain⟨y,hy⟩:∃ y,(((c.tx).take k).drop 0)[j]? =some y:=⟨_,py c2⟩;have hjl:(((c.tx).take k).drop 0).length<=3:=by simp;omega
   refine .region<|.ix 0 (((hr.x.ext s6.ext)).sub (a:=0) (b:=k) (IN _) (by omega)) J<|.lg 0 (((hr.x.ext s6.ext)).sub (a:=0) (b:=k) (IN _) (by omega)) hy J<|.al 0 s6 J λ b3 _ s7 _ _=>.sa 0 s7 2 J ((aR).one _) λ _ s8 _=>?_;have s8:=s8.nn;refine .nil<|.h<|.ld 1 s8 2 J<|.ld 1 s8 1 J<|.e J (.cY J J)<|.nil<|.az J (KG (ho.tx.nd k j x y hx (pT hy).2 (pT hy).1))<|.skip<|.U J ?_;exact ba (j+1) (s8.pk [0,1])
  refine .ak<|.seq<|.seq<|.cu 84 (((((x.b:Int)≠(en:Int))\/((x.e:Int)<=(x.b:Int)))\/(((c.tk.length:Nat):Int)<(x.e:Int)))\/((k=(c.tx.length-1))/\((x.e:Int)≠((c.tk.length:Nat):Int)))) ?_ ?_
  ·refine .ld 1 s6 1 J<|.a 1 J (.neq J J)<|.z 1 J<|.B 58 J (λ g1=>?_) λ g1=>?_
   ·refine .M J (by simp[g1])
   refine .ld 1 s6 1 J<|.ld 1 s6 1 J<|.a 0 J (.leq J J)<|.z 2 J<|.B 65 J (λ g2=>?_) λ g2=>?_
   ·refine .M J (by simp[g1,g2])
   refine .ld 1 s6 1 J<|.a 1 J (.gtr J J)<|.z 2 J<|.B 71 J (λ g3=>?_) λ g3=>?_
   ·refine .M J (by simp[g1,g2,g3])
   refine .ld 2 s6 0 J<|.ln 0 (hr.x.ext s6.ext) J<|.z 3 J<|.B 78 J (λ g4=>?_) λ g4=>?_
   ·refine .ld 1 s6 1 J<|.a 1 J (.neq J J)<|.M J (by simp[g1,g2,g3,g4])
   refine .M J (by simp[g1,g2,g3,g4])
  refine .az J (KG (λ h=>h.elim (λ h=>h.elim (λ h=>h.elim (λ h=>h (hen x hx)) (λ h=>by omega)) (λ h=>by omega)) (λ h=>h.2 (ho.tx.last k x hx (by omega)))))<|.skip<|.seq<|.h<|.ld 1 s6 1 J<|.cp 0 s6 (rz _ (x.ps) _ ((hr.xr _ (a6 hx)).ext s6.ext) (hxo.2.1)) J λ _ s10=>.Z J<|.Z J<|.az J (J)<|.skip<|.region<|.ld 1 s10 1 J<|.Z J<|.U J ?_;exact ba (k+1,x.e) ⟨s10.pk [0],λ y hy=>ho.tx.next k x y hx hy⟩
 refine .ak<|.Z J<|.bp J J J ?_;exact⟨J,s2.pk []⟩
def rA(c:Co)(b e:Int)(w:World)(hr:RdC w c)(n:Nat)(ho:OkC n c)(hn:n<=4)(hin:inT c.tx b e):
  CallsV prog 170 [(.agg #[c.va,c.vt,c.vx,c.vr,c.vn,c.vh,c.vl]),(.int .i64 (b)),(.int .i64 (e))] w λ r w'=>r= .bool true/\Sat w [] w':=by
 have htx:=ho.ntx;obtain⟨t,ht,ht1,ht2,ht3⟩:=hin;obtain⟨m,hm⟩:=OV ht;have hml:=(sp.1 hm).1;have hs0:=Sat.start w;refine ay func170 J J ?_;refine .h<|.bx 0 hs0 J λ b1 _ s1 _ _=>.Z J<|.seq<|.h<|.ld 1 s1 0 J<|.ln 0 (hr.x.ext s1.ext) J<|.Z J<|.block<|.lq [0,1,2,3,10,11] J (α:=Nat) (λ k=>[(12,(.int .i64 k))]) (λ k w'=>Sat w s1.L w'/\(∀ (j:Nat) t,j<k->c.tx[j]? =some t->¬ ((t.b<=b/\b<e)/\e<=t.e))) (λ k=>c.tx.length-k) 0 ⟨s1,λ j t h=>absurd h (by omega)⟩ ?_;rintro k w2 ⟨s2,hno⟩;refine .Z J<|.seq<|.a8 J (λ c1=>?_) λ c1=>?_
 ·refine .skip<|.seq<|.block<|.seq ?_;obtain⟨x,hx⟩:∃ x,(c.tx)[k]? =some x:=⟨_,py c1⟩;refine .region<|.ix 0 (hr.x.ext s2.ext) J<|.lg 0 (hr.x.ext s2.ext) hx J<|.al 0 s2 J λ b2 _ s3 _ _=>.sa 0 s3 1 J ((aR).one _) λ _ s4 _=>?_;have s4:=s4.nn;refine .nil<|.seq<|.cu 30 ((((x.b:Int)<=(b:Int))/\((b:Int)<(e:Int)))/\((e:Int)<=(x.e:Int))) ?_ ?_
  ·refine .ld 1 s4 1 J<|.a 1 J (.leq J J)<|.z 1 J<|.B 20 J (λ g1=>?_) λ g1=>?_
   ·refine .a 2 J (.lss J J)<|.z 2 J<|.B 25 J (λ g2=>?_) λ g2=>?_
    ·refine .ld 2 s4 1 J<|.a 0 J (.leq J J)<|.M J (by simp[g1,g2])
    refine .M J (by simp[g1,g2])
   refine .M J (by simp[g1])
  refine .a8 J (λ c2=>?_) λ c2=>?_
  ·refine .Z J<|.aC J J ?_;exact⟨J,s4.pk []⟩
  refine .skip<|.U J ?_;exact ba (k+1) ⟨s4.pk [0],lZ hno hx c2⟩
 refine .ak<|.Z J<|.aC J J ?_;have s7:=s2.pk [];exact absurd ⟨⟨ht1,ht2⟩,ht3⟩ (hno m t (by omega) hm)
def uk(c:Co)(n:Nat)(w:World)(hr:RdC w c)(ho:OkC n c)(hn:n<=4):
  CallsV prog 131 [(.agg #[c.va,c.vt,c.vx,c.vr,c.vn,c.vh,c.vl])] w λ r w'=>r= .tuple #[.int .i64 ((0:Nat):Int),.int .i64 ((0:Nat):Int)]/\Sat w [] w':=by
 have htk:=ho.ntk;have htx:=ho.ntx;have hrg:=ho.nrg;have hnd:=ho.nnd;have hat:=ho.at_.2;have hs0:=Sat.start w;refine ay func131 J J ?_;refine .h<|.bx 0 hs0 J λ b1 _ s1 _ _=>.Z J<|.seq<|.h<|.ld 1 s1 0 J<|.ln 0 (hr.r.ext s1.ext) J<|.Z J<|.az J (KG (by omega))<|.skip<|.seq<|.h<|.ld 1 s1 0 J<|.ln 0 (hr.r.ext s1.ext) J<|.Z J<|.block<|.lq [0,1,15,16] J (α:=Nat) (λ k=>[(17,(.int .i64 k))]) (λ k w'=>Sat w s1.L w') (λ k=>c.rg.length-k) 0 s1 ?_;rintro k w2 s2;refine .Z J<|.seq<|.a8 J (λ c1=>?_) λ c1=>?_
 ·refine .skip<|.seq<|.block<|.seq ?_;obtain⟨x,hx⟩:∃ x,(c.rg)[k]? =some x:=⟨_,py c1⟩;have hxo:=ho.rg.el x (a6 hx);refine .region<|.ix 1 (hr.r.ext s2.ext) J<|.lg 0 (hr.r.ext s2.ext) hx J<|.al 0 s2 J λ b2 _ s3 _ _=>.sa 1 s3 1 J ((aR).one _) λ _ s4 _=>?_;have s4:=s4.nn;refine .nil<|.seq<|.block<|.h<|.ld 1 s4 1 J<|.cp 0 s4 (cP x.nm _) J λ _ s5=>.e J (.cO J)<|.Z J<|.az J (by simp[hxo.1])<|.h<|.lo 0 s5 0 J<|.ld 1 s5 1 J<|.ld 1 s5 1 J<|.cp 0 s5 (rA c (x.b) (x.e) _ (hr.ext s5.ext) _ ho hn (hxo.2.1)) J λ _ s6=>.Z J<|.az J (J)<|.skip<|.seq<|.h<|.ld 1 s6 1 J<|.cq 0 s6 (rz _ (x.ps) _ ((hr.rr _ (a6 hx)).ext s6.ext) (hxo.2.2)) J λ _ s7=>.Z J<|.Z J<|.az J (J)<|.skip<|.seq<|.seq ?_;obtain⟨y,hy⟩:=yy hx;refine .md [0,1,4,5,6,15,16,17] J (λ K L' w'=>Weak ([(56,(.bool (decide ((0<k)/\((0:Int)<((fq y x):Int))))))]++K) L'/\Sat w s7.L w') ?_ ?_
  ·refine .dk [0,1] s7 J (pl [0,1,2,3,4,5,6,7,8,9,1010,11,12] .fin) λ s8 S1=>.z 3 S1 J<|.B 46 J (λ g1=>?_) λ g1=>?_
   ·refine .ld 1 S1 0 J<|.ix 2 S1 (hr.r.ext ·.ext) J<|.lg 0 S1 (hr.r.ext ·.ext) (hy (by omega)) J<|.a 0 S1 J (λ _ s=>.ch yl J s (i:=1) J J)<|.c 0 S1 (uj y x _ ((hr.rr _ (a6 (hy (by omega)))).ext s8.ext) ((hr.rr _ (a6 hx)).ext s8.ext) (by have:=(ho.rg.el y (a6 (hy (by omega)))).2.2.1;omega) (by have:=hxo.2.2.1;omega)) J λ r4 _ h4=>?_;obtain⟨rfl,p4⟩:=h4;have s9:=s8.au p4;have S2:=s9.pk [0,1];refine⟨S2,?_⟩;refine .a 0 S2 J (λ _ s=>.gtr J J)<|.Z S2 J ?_;exact⟨⟨If some (If Value.bool (by simp[g1])),J,J,J,J,J,J,J,J,trivial⟩,s9⟩
   refine .Z S1 J ?_;exact⟨⟨If some (If Value.bool (by simp[g1])),J,J,J,J,J,J,J,J,trivial⟩,s8⟩
  rintro L' w9 ⟨hw1,s10⟩;refine .weaken _ hw1<|.az J (KG (λ h=>by have:=ho.rg.asc (k-1) y x (hy h.1) (by rw[show k-1+1=k by omega];exact hx);omega))<|.skip<|.Z J<|.seq<|.h<|.ld 1 s10 0 J<|.a 2 J (.aV (E:=aR) (a:=0) (c:=(k+1)) qI J (hr.r.ext s10.ext) J ⟨_,J⟩ (IN _) (by omega))<|.ln 0 (((hr.r.ext s10.ext)).sub (a:=0) (b:=(k+1)) (IN _) (by omega)) J<|.Z J<|.block ?_;have hjl:(((c.rg).take (k+1)).drop 0).length<=32:=by simp;omega
  refine .lq [0,1,4,5,6,15,16,17,62,63] J (α:=Nat×Nat) (λ(j,d)=>[(7,(.int .i64 d)),(64,(.int .i64 j))]) (λ(j,d) w'=>Sat w s10.L w'/\(d<=j)/\(j<=(((c.rg).take (k+1)).drop 0).length)) (λ(j,d)=>(((c.rg).take (k+1)).drop 0).length-j) (0,0) ⟨s10,KP _,IN _⟩ ?_;rintro⟨j,d⟩ w10 ⟨s11,hd,hjo⟩;refine .Z J<|.seq<|.a8 J (λ c2=>?_) λ c2=>?_
  ·refine .skip<|.seq<|.block<|.seq ?_;obtain⟨z,hz⟩:∃ z,(((c.rg).take (k+1)).drop 0)[j]? =some z:=⟨_,py c2⟩;refine .region<|.ix 1 (((hr.r.ext s11.ext)).sub (a:=0) (b:=(k+1)) (IN _) (by omega)) J<|.lg 0 (((hr.r.ext s11.ext)).sub (a:=0) (b:=(k+1)) (IN _) (by omega)) hz J<|.al 0 s11 J λ b3 _ s12 _ _=>.sa 1 s12 2 J ((aR).one _) λ _ s13 _=>.nil<|.jn [0,1,4,5,6,8,9,15,16,17,62,63,64] J (λ K L' w'=>∃ (d2:Nat),Weak ([(7,(.int .i64 d2))]++K) L'/\Sat w s13.L w'/\(d2<=j+1)) ?_ ?_
   ·refine .seq<|.cu 80 (((z.b:Int)<=(x.b:Int))/\((x.b:Int)<(z.e:Int))) ?_ ?_
    ·refine .ld 1 s13 2 J<|.ld 1 s13 1 J<|.e J (.leq J J)<|.z 1 J<|.B 74 J (λ g2=>?_) λ g2=>?_
     ·refine .ld 1 s13 1 J<|.ld 1 s13 2 J<|.a 0 J (.lss J J)<|.M J (by simp[g2])
     refine .M J (by simp[g2])
    refine .a8 J (λ c3=>?_) λ c3=>?_
    ·refine .U J ?_;exact⟨(d+1),(wk J),s13,by omega⟩
    refine .skip ?_;exact⟨d,(wk J),s13,by omega⟩
   rintro L' w13 ⟨d2,hw2,s14,hd2⟩;refine .weaken _ hw2<|.seq<|.cu 136 ((((((j<k)/\(z.nm=x.nm))/\((z.b:Int)<(x.e:Int)))/\((x.b:Int)<(z.e:Int)))/\(¬ (((z.b:Int)<=(x.b:Int))/\((x.e:Int)<=(z.e:Int)))))/\(¬ (((x.b:Int)<=(z.b:Int))/\((z.e:Int)<=(x.e:Int))))) ?_ ?_
   ·refine .z 4 J<|.B 86 J (λ g3=>?_) λ g3=>?_
    ·refine .ld 1 s14 2 J<|.ld 1 s14 1 J<|.a 0 J (.cY J J)<|.z 2 J<|.B 93 J (λ g4=>?_) λ g4=>?_
     ·refine .ld 1 s14 2 J<|.ld 1 s14 1 J<|.a 0 J (.lss J J)<|.z 2 J<|.B 100 J (λ g5=>?_) λ g5=>?_
      ·refine .ld 1 s14 1 J<|.ld 1 s14 2 J<|.a 0 J (.lss J J)<|.z 2 J<|.B 107 J (λ g6=>?_) λ g6=>?_
       ·refine .ld 1 s14 2 J<|.ld 1 s14 1 J<|.a 0 J (.leq J J)<|.z 1 J<|.B 113 J (λ g7=>?_) λ g7=>?_
        ·refine .ld 1 s14 1 J<|.ld 1 s14 2 J<|.a 0 J (.leq J J)<|.a 1 J (.km J)<|.z 2 J<|.B 122 J (λ g8=>?_) λ g8=>?_
         ·refine .ld 1 s14 1 J<|.ld 1 s14 2 J<|.a 0 J (.leq J J)<|.z 1 J<|.B 128 J (λ g9=>?_) λ g9=>?_
          ·refine .ld 1 s14 2 J<|.ld 1 s14 1 J<|.a 0 J (.leq J J)<|.a 1 J (.km J)<|.M J (by simp[g3,g4,g5,g6,g7,g8,g9])
          refine .M J (by simp[g3,g4,g5,g6,g7,g8,g9])
         refine .M J (by simp[g3,g4,g5,g6,g7,g8])
        refine .ld 10 s14 1 J<|.ld 1 s14 2 J<|.a 0 J (.leq J J)<|.z 1 J<|.B 128 J (λ g10=>?_) λ g10=>?_
        ·refine .ld 1 s14 2 J<|.ld 1 s14 1 J<|.a 0 J (.leq J J)<|.a 1 J (.km J)<|.M J (by simp[g10,g3,g4,g5,g6,g7])
        refine .M J (by simp[g10,g3,g4,g5,g6,g7])
       refine .M J (by simp[g3,g4,g5,g6])
      refine .M J (by simp[g3,g4,g5])
     refine .M J (by simp[g3,g4])
    refine .M J (by simp[g3])
   refine .az J (KG (λ h=>ho.rg.nox z (a6 (pT hz).2) x (a6 hx) h.1.1.1.1.2 ⟨h.1.1.1.2,h.1.1.2,h.1.2,h.2⟩))<|.skip<|.U J ?_;exact ba (j+1,d2) ⟨s14.pk [0,1],by omega,by omega⟩
  refine .ak<|.Z J<|.az J (KG (by omega))<|.skip<|.U J ?_;exact ba (k+1) (s11.pk [0])
 refine .ak<|.Z J<|.bp J J J ?_;exact⟨J,s2.pk []⟩
def Au(c:Co)(n:Nat)(w:World)(hr:RdC w c)(ho:OkC n c)(hn:n<=4):
  CallsV prog 132 [c.vn,(.agg #[c.va,c.vt,c.vx,c.vr,c.vn,c.vh,c.vl])] w λ r w'=>r= .tuple #[.int .i64 ((0:Nat):Int),.int .i64 ((0:Nat):Int)]/\Sat w [] w':=by
 have htk:=ho.ntk;have htx:=ho.ntx;have hrg:=ho.nrg;have hnd:=ho.nnd;have hat:=ho.at_.2;have hs0:=Sat.start w;refine ay func132 J J ?_;refine .h<|.bx 0 hs0 J λ b1 _ s1 _ _=>.Z J<|.seq<|.h<|.ln 1 (hr.n.ext s1.ext) J<|.Z J<|.az J (KG (by omega))<|.skip<|.h<|.ln 1 (hr.n.ext s1.ext) J<|.f J (.eC (ae .i64) (0) bD J s1 J J (by omega) (by omega) (by omega) λ v1 _ s2 _=>?_);refine .Z J<|.seq<|.h<|.ln 1 (hr.n.ext s2.ext) J<|.Z J<|.block<|.lq [0,1,3,18,19] J (α:=Nat×Value×List Nat) (λ(k,dv,dp)=>[(6,dv),(20,(.int .i64 k))]) (λ(k,dv,dp) w'=>Sat w (s2.U [(1,cL dv 3 (ae .i64) (dp))]) w'/\(dp.length=c.nd.length)/\(∀ (q:Nat) d,dp[q]? =some d->d<=q+1/\(k<=q->d=0))) (λ(k,dv,dp)=>c.nd.length-k) (0,v1,List.replicate (c.nd.length) 0) ⟨s2,by simp,(λ q z h=>by rw[getElem?_replicate]at h;split at h;cases h;omega;cases h)⟩ ?_;rintro⟨k,dv,dp⟩ w3 ⟨s3,hdl,hdp⟩;refine .Z J<|.seq<|.a8 J (λ c1=>?_) λ c1=>?_
 ·refine .skip<|.seq<|.block<|.seq ?_;obtain⟨x,hx⟩:∃ x,(c.nd)[k]? =some x:=⟨_,py c1⟩;have hxo:=ho.nd.el x (a6 hx);have hxp:=ho.nd.par k x hx;have hxq:=hxp.imp_right (·.1);refine .region<|.ix 1 (hr.n.ext s3.ext) J<|.lg 0 (hr.n.ext s3.ext) hx J<|.al 0 s3 J λ b2 _ s4 _ _=>?_;have s4:=s4.nn;refine .sa 1 s4 2 J ((bR).one _) λ _ s5 _=>.nil<|.seq<|.block<|.h<|.ld 1 s5 2 J<|.cp 0 s5 (cP x.nm _) J λ _ s6=>.e J (.cO J)<|.Z J<|.az J (by simp[hxo.1])<|.h<|.lo 0 s6 0 J<|.ld 1 s6 2 J<|.ld 1 s6 2 J<|.cq 0 s6 (rA c (x.b) (x.e) _ (hr.ext s6.ext) _ ho hn (hxo.2)) J λ _ s7=>.Z J<|.az J (J)<|.skip<|.h<|.a 1 J (.sub (b:=(1:Int)) J J (by unfold bq;omega))<|.Z J<|.seq<|.block<|.lq [0,1,3,6,7,8,18,19,20] J (α:=Int) (λ z=>[(9,(.int .i64 (z)))]) (λ z w'=>Sat w s7.L w'/\(-1<=z/\z<(c.nd.length:Int))/\(x.p= -1\/z=x.p)) (λ z=>(z+1).toNat) (((k:Nat):Int)-1) ⟨s7,by omega,by omega⟩ ?_;rintro z w8 ⟨s8,hz,hzp⟩;refine .seq<|.seq<|.cu 49 (((0:Int)<=(z:Int))/\((z:Int)≠(x.p:Int))) ?_ ?_
  ·refine .a 1 J (.geq J J)<|.z 1 J<|.B 44 J (λ g1=>?_) λ g1=>?_
   ·refine .ld 2 s8 2 J<|.a 0 J (.neq J J)<|.M J (by simp[g1])
   refine .M J (by simp[g1])
  refine .a8 J (λ c2=>?_) λ c2=>?_
  ·refine .skip<|.block ?_;obtain⟨y,hy⟩:∃ y,c.nd[z.toNat]? =some y:=⟨_,py (by omega)⟩;have hyq:=(ho.nd.par _ y hy).imp_right (·.1);refine .region<|.a 2 J (.fV (j:=z.toNat) (E:=bR) iv J (iQ (z:=z) (n:=z.toNat) (by omega)) (hr.n.ext s8.ext) (by omega))<|.fl 0 (hr.n.ext s8.ext) J<|.lf 0 (hr.n.ext s8.ext) hy J<|.Z J ?_;exact ba y.p ⟨s8,by omega,by omega⟩
  refine .ak<|.seq<|.seq<|.cu 61 (((z:Int)<(0:Int))/\((x.p:Int)≠(-1:Int))) ?_ ?_
  ·refine .a 1 J (.lss J J)<|.z 1 J<|.B 57 J (λ g2=>?_) λ g2=>?_
   ·refine .ld 1 s8 2 J<|.a 0 J (.neq J J)<|.M J (by simp[g2])
   refine .M J (by simp[g2])
  refine .az J (KG (by omega))<|.skip<|.jn [0,1,3,6,7,8,18,19,20] J (λ K L' w'=>∃ (dp2:List Nat),Weak K L'/\Sat w (s8.U [(1,cL dv 3 (ae .i64) (dp2))]) w'/\(dp2.length=c.nd.length)/\((∀ (q:Nat) d,dp2[q]? =some d->q≠k->d<=q+1/\(k<=q->d=0))/\∀ d,dp2[k]? =some d->d<=k)) ?_ ?_
  ·refine .h<|.ld 1 s8 2 J<|.e J (.geq J J)<|.nil<|.a8 J (λ c3=>?_) λ c3=>?_
   ·refine .seq ?_;obtain⟨y,hy⟩:∃ y,c.nd[x.p.toNat]? =some y:=⟨_,py (by omega)⟩;have hyo:=(hxp.resolve_left (by omega)).2.2 y (by rw[show k-1=x.p.toNat by omega];exact hy);obtain⟨d,hd⟩:∃ d,dp[x.p.toNat]? =some d:=⟨_,py (by omega)⟩;have hdd:=(hdp _ d hd).1;refine .region<|.ld 2 s8 2 J<|.e J (.fV (j:=x.p.toNat) (E:=bR) iv J (iQ (z:=x.p) (n:=x.p.toNat) (by omega)) (hr.n.ext s8.ext) (by omega))<|.lg 0 (hr.n.ext s8.ext) hy J<|.al 0 s8 J λ b3 _ s9 _ _=>.sa 0 s9 3 J ((bR).one _) λ _ s10 _=>.nil<|.seq<|.seq<|.cu 82 (((x.b:Int)<(y.b:Int))\/((y.e:Int)<(x.e:Int))) ?_ ?_
    ·refine .ld 1 s10 2 J<|.ld 1 s10 3 J<|.e J (.lss J J)<|.z 1 J<|.B 76 J (λ g3=>?_) λ g3=>?_
     ·refine .M J (by simp[g3])
     refine .ld 1 s10 2 J<|.ld 1 s10 3 J<|.a 0 J (.gtr J J)<|.M J (by simp[g3])
    refine .az J (KG (by omega))<|.skip<|.region<|.ld 4 s10 2 J<|.e J (.fV (j:=x.p.toNat) (E:=ae .i64) bD J (iQ (z:=x.p) (n:=x.p.toNat) (by omega)) (s10.aa 1 J) (by omega))<|.le 0 (s10.aa 1 J) hd J<|.ix 0 (s10.aa 1 J) J<|.f J (.setL (a:=d) 1 dZ s10 J J J J (by first|omega|(rw[Oz];omega)) λ _ s11 _=>?_);have s11:=s11.nn;refine .nil ?_;exact⟨dp.set k d,(wk J),s11.pk [0,1,2],by rw[Oz];exact hdl,DL hdp (by omega)⟩
   refine .skip ?_;exact⟨dp,(wk J),s8.pk [0,1,2],hdl,⟨λ q d h _=>hdp q d h,λ d h=>by have:=(hdp k d h).2 (KP _);omega⟩⟩
  rintro L' w12 ⟨dp2,hw1,s14,hdl2,hdp2⟩;refine .weaken _ hw1<|.seq<|.h<|.a 1 J (.sub (b:=(1:Int)) J J (by unfold bq;omega))<|.Z J<|.block<|.lq [0,1,3,6,7,8,18,19,20] J (α:=Nat) (λ m=>[(11,(.int .i64 ((((m:Nat):Int)-1))))]) (λ m w'=>Sat w s14.L w'/\(m<=k)) (λ m=>m) k ⟨s14,KP _⟩ ?_;rintro m w13 ⟨s15,hmk⟩;refine .seq<|.h<|.a 1 J (.geq J J)<|.nil<|.a8 J (λ c4=>?_) λ c4=>?_
  ·refine .skip<|.seq<|.block<|.seq ?_;obtain⟨y,hy⟩:∃ y,c.nd[m-1]? =some y:=⟨_,py (by omega)⟩;refine .dk [0,1,2] s15 J (pl [0,1,2,3,4,5,6,7] .fin) λ s16 S1=>.z 2 S1 J<|.e J (λ _ s=>.fV (j:=(m-1)) (E:=bR) iv J (iQ (z:=(((m:Nat):Int)-1)) (n:=(m-1)) (by omega)) (hr.n.ext s.ext) (by omega)) S1<|.fl 0 S1 (hr.n.ext ·.ext) J<|.lf 0 S1 (hr.n.ext ·.ext) hy J<|.ld 1 S1 2 J<|.e J (λ _ s=>.eql J J) S1<|.fin<|.a8 J (λ c5=>?_) λ c5=>?_
   ·refine .seq<|.seq<|.dk [0,1,2] s16 J (pl [0,1,2,3,4,5,6,7] .fin) λ s17 S2=>.ld 1 S2 2 J<|.z 2 S2 J<|.e J (λ _ s=>.fV (j:=(m-1)) (E:=bR) iv J (iQ (z:=(((m:Nat):Int)-1)) (n:=(m-1)) (by omega)) (hr.n.ext s.ext) (by omega)) S2<|.fl 0 S2 (hr.n.ext ·.ext) J<|.lf 0 S2 (hr.n.ext ·.ext) hy J<|.e J (λ _ s=>.lss J J) S2<|.fin<|.az J (KG (λ h=>by have:=ho.nd.sib (m-1) k x y hy hx (by omega) (by omega);omega))<|.skip<|.Je J<|.seq ?_;obtain⟨d,hd⟩:∃ d,dp2[k]? =some d:=⟨_,py (by omega)⟩;have hd2:(dp2.set k (d+1))[k]? =some (d+1):=P4 (by omega);have hdk:=hdp2.2 d hd;refine .region<|.ix 2 (s17.aa 1 J) J<|.le 0 (s17.aa 1 J) hd J<|.ix 1 (s17.aa 1 J) J<|.f J (.setL (a:=(d+1)) 1 dZ s17 J J J J (by first|omega|(rw[Oz];omega)) λ _ s18 _=>?_);refine .nil<|.h<|.ix 2 (s18.aa 1 J) J (hj:=by rw[Oz];omega)<|.le 0 (s18.aa 1 J) hd2 J<|.Z J<|.az J (KG (by omega))<|.skip<|.U J ?_;exact ba (k+1,dv,dp2.set k (d+1)) ⟨s18.pk [0,1],by rw[Oz];exact hdl2,vg hdp2 (by omega)⟩
   refine .skip<|.region<|.a 1 J (.sub (b:=(1:Int)) J J (by unfold bq;omega))<|.Z J ?_;exact⟨m-1,⟨If some (If (Value.int .i64) (by omega)),J,J,J,J,J,J,J,J,J,trivial⟩,⟨s16,by omega⟩,by omega⟩
  refine .ak<|.seq ?_;obtain⟨d,hd⟩:∃ d,dp2[k]? =some d:=⟨_,py (by omega)⟩;have hd2:(dp2.set k (d+1))[k]? =some (d+1):=P4 (by omega);have hdk:=hdp2.2 d hd;refine .region<|.ix 2 (s15.aa 1 J) J<|.le 0 (s15.aa 1 J) hd J<|.ix 1 (s15.aa 1 J) J<|.f J (.setL (a:=(d+1)) 1 dZ s15 J J J J (by first|omega|(rw[Oz];omega)) λ _ s20 _=>?_);refine .nil<|.h<|.ix 2 (s20.aa 1 J) J (hj:=by rw[Oz];omega)<|.le 0 (s20.aa 1 J) hd2 J<|.Z J<|.az J (KG (by omega))<|.skip<|.U J ?_;exact ba (k+1,dv,dp2.set k (d+1)) ⟨s20.pk [0,1],by rw[Oz];exact hdl2,vg hdp2 (by omega)⟩
 refine .ak<|.Z J<|.bp J J J ?_;exact⟨J,s3.pk []⟩
def Cb(vh vl:Value)(hd:List Int)(rl:List ByteArray)(w:World)(hv:RdL w vh (Kw.encI .i64) hd)(hw:RdL w vl ah rl)(hl:hd.length<=1000)(he:hd.length=rl.length)(hb:∃ i:Nat,(∃ h,hd[i]? =some h/\h≠-1)\/∃ s,rl[i]? =some s/\s≠ByteArray.empty):
  CallsV prog 171 [vh,vl] w λ r w'=>r= .bool false/\Sat w [] w':=by
 refine bQ func171 J λ hs0=>.Z J<|.seq<|.h<|.ln 1 (hv.ext hs0.ext) J<|.Z J<|.block<|.lq [0,1,7] J (α:=Nat) (λ k=>[(8,(.int .i64 k))]) (λ k w'=>Sat w [] w'/\(∀ (j:Nat) t,j<k->hd[j]? =some t->t= -1/\rl[j]? =some (ByteArray.mk #[]))) (λ k=>hd.length-k) 0 ⟨hs0,λ j t h=>absurd h (by omega)⟩ ?_;rintro k w1 ⟨s1,hno⟩;refine .Z J<|.seq<|.a8 J (λ c1=>?_) λ c1=>?_
 ·refine .skip<|.seq<|.block<|.seq ?_;obtain⟨x,hx⟩:∃ x,(hd)[k]? =some x:=⟨_,py c1⟩;obtain⟨s,hs9⟩:∃ s,rl[k]? =some s:=⟨_,py (by omega)⟩;refine .U J<|.seq<|.cu 22 (((x:Int)≠(-1:Int))\/(s≠(ByteArray.mk #[]))) ?_ ?_
  ·refine .ix 2 (hv.ext s1.ext) J<|.le 0 (hv.ext s1.ext) hx J<|.e J (.neq J J)<|.z 1 J<|.B 16 J (λ g1=>?_) λ g1=>?_
   ·refine .M J (by simp[g1])
   refine .ix 2 (hw.ext s1.ext) J<|.le 0 (hw.ext s1.ext) hs9 J<|.a 0 J (.bO J J)<|.M J (by simp[g1])
  refine .a8 J (λ c2=>?_) λ c2=>?_
  ·refine .Z J<|.aC J J ?_;exact⟨J,s1.pk []⟩
  refine .skip<|.U J ?_;exact ba (k+1) ⟨s1,lZ hno hx ⟨by omega,by rw[hs9];exact If some (Po.1 λ h=>c2 (.inr h))⟩⟩
 refine .ak<|.Z J<|.aC J J ?_;have s3:=s1.pk [];exact(Nv he hno (by omega) hb).elim
def oW(c:Co)(p:Int)(w:World)(hr:RdC w c)(hl:c.tx.length<=64)(hin:∃ t∈c.tx,t.b<=p/\p<t.e):
  CallsV prog 172 [(.agg #[c.va,c.vt,c.vx,c.vr,c.vn,c.vh,c.vl]),(.int .i64 (p))] w λ r w'=>∃ (i:Nat) (t:Iv),r= .int .i64 (i:Int)/\c.tx[i]? =some t/\t.b<=p/\p<t.e/\Sat w [] w':=by
 have hs0:=Sat.start w;refine ay func172 J J ?_;refine .h<|.bx 0 hs0 J λ b1 _ s1 _ _=>.Z J<|.seq<|.h<|.ld 1 s1 0 J<|.ln 0 (hr.x.ext s1.ext) J<|.Z J<|.block<|.lq [0,1,2,8,9] J (α:=Nat) (λ k=>[(10,(.int .i64 k))]) (λ k w'=>Sat w s1.L w'/\(∀ (j:Nat) t,j<k->c.tx[j]? =some t->¬ (t.b<=p/\p<t.e))) (λ k=>c.tx.length-k) 0 ⟨s1,λ j t h=>absurd h (by omega)⟩ ?_;rintro k w2 ⟨s2,hno⟩;refine .Z J<|.seq<|.a8 J (λ c1=>?_) λ c1=>?_
 ·refine .skip<|.seq<|.block<|.seq ?_;obtain⟨x,hx⟩:∃ x,(c.tx)[k]? =some x:=⟨_,py c1⟩;refine .region<|.ix 1 (hr.x.ext s2.ext) J<|.lg 0 (hr.x.ext s2.ext) hx J<|.al 0 s2 J λ b2 _ s3 _ _=>.sa 1 s3 1 J ((aR).one _) λ _ s4 _=>?_;have s4:=s4.nn;refine .nil<|.seq<|.cu 24 (((x.b:Int)<=(p:Int))/\((p:Int)<(x.e:Int))) ?_ ?_
  ·refine .ld 1 s4 1 J<|.a 1 J (.leq J J)<|.z 1 J<|.B 19 J (λ g1=>?_) λ g1=>?_
   ·refine .ld 2 s4 1 J<|.a 0 J (.lss J J)<|.M J (by simp[g1])
   refine .M J (by simp[g1])
  refine .a8 J (λ c2=>?_) λ c2=>?_
  ·refine .Z J<|.aC J J ?_;exact⟨k,x,J,hx,c2.1,c2.2,s4.pk []⟩
  refine .skip<|.U J ?_;exact ba (k+1) ⟨s4.pk [0],lZ hno hx c2⟩
 refine .ak<|.Z J<|.aC J J ?_;have s7:=s2.pk [];obtain⟨t,ht,h1⟩:=hin;obtain⟨j,hj⟩:=OV ht;exact absurd h1 (hno j t (by have:=(sp.1 hj).1;omega) hj)
def Av(v:Value)(hd:List Int)(n i:Nat)(w:World)(hv:RdL w v (Kw.encI .i64) hd)(hl:hd.length<=1000)(hf:HdF n hd)(hi:i<hd.length):
  CallsV prog 173 [v,(.int .i64 i)] w λ r w'=>r= .bool false/\Sat w [] w':=by
 obtain⟨rank,hrk⟩:=hf.rk;have hs0:=Sat.start w;refine ay func173 J J ?_;refine .Z J<|.Z J<|.seq<|.h<|.ln 1 (hv.ext hs0.ext) J<|.Z J<|.block<|.lq [0,1,8] J (α:=Nat×Int) (λ(k,z)=>[(5,(.int .i64 (z))),(9,(.int .i64 k))]) (λ(k,z) w'=>Sat w [] w'/\(0<=z/\z<(hd.length:Int))/\(rank z.toNat<=rank i)) (λ(k,z)=>hd.length-k) (0,(i:Int)) ⟨hs0,by omega,by rw[Qb];exact KP _⟩ ?_;rintro⟨k,z⟩ w1 ⟨s1,hz,hrz⟩;refine .Z J<|.seq<|.a8 J (λ c1=>?_) λ c1=>?_
 ·refine .skip<|.seq<|.block<|.seq ?_;obtain⟨x,hx⟩:∃ x,hd[z.toNat]? =some x:=⟨_,py (by omega)⟩;refine .region<|.a 2 J (.fV (j:=z.toNat) (E:=Kw.encI .i64) bD J (iQ (z:=z) (n:=z.toNat) (by omega)) (hv.ext s1.ext) (by omega))<|.le 0 (hv.ext s1.ext) hx J<|.Z J<|.seq<|.seq<|.cu 22 (((x:Int)<(0:Int))\/(((hd.length:Nat):Int)<=(x:Int))) ?_ ?_
  ·refine .a 1 J (.lss J J)<|.z 1 J<|.B 17 J (λ g1=>?_) λ g1=>?_
   ·refine .M J (by simp[g1])
   refine .ln 2 (hv.ext s1.ext) J<|.a 0 J (.geq J J)<|.M J (by simp[g1])
  refine .a8 J (λ c2=>?_) λ c2=>?_
  ·refine .Z J<|.aC J J ?_;exact⟨J,s1.pk []⟩
  refine .skip<|.h<|.a 2 J (.eql J J)<|.nil<|.az J (KG (λ h=>by have h1:=hrk _ x hx (by omega);rw[show x.toNat=i by omega]at h1;omega))<|.skip<|.U J ?_;exact ba (k+1,x) ⟨s1,by omega,by have:=hrk _ x hx (by omega);omega⟩
 refine .ak<|.Z J<|.aC J J ?_;exact⟨J,s1.pk []⟩
def Aw(c:Co)(n:Nat)(w:World)(hr:RdC w c)(ho:OkC n c)(hn:n<=4):
  CallsV prog 133 [(.agg #[c.va,c.vt,c.vx,c.vr,c.vn,c.vh,c.vl])] w λ r w'=>r= .tuple #[.int .i64 ((0:Nat):Int),.int .i64 ((0:Nat):Int)]/\Sat w [] w':=by
 have htk:=ho.ntk;have htx:=ho.ntx;have hrg:=ho.nrg;have hnd:=ho.nnd;have hat:=ho.at_.2;have hhl:=ho.hZ.1;have hhm:c.hd.length<=48:=by rcases PB c.hd.length with q|q;omega;have:=(ho.hZ.2 q).len.1;omega
 have hs0:=Sat.start w;refine ay func133 J J ?_;refine .h<|.bx 0 hs0 J λ b1 _ s1 _ _=>.Z J<|.h<|.ld 1 s1 0 J<|.ln 0 (hr.h.ext s1.ext) J<|.Z J<|.seq<|.seq<|.cu 25 ((c.hd.length≠c.rl.length)\/((c.hd.length≠0)/\(c.hd.length≠c.tk.length))) ?_ ?_
 ·refine .ld 2 s1 0 J<|.ln 0 (hr.l.ext s1.ext) J<|.z 2 J<|.B 15 J (λ g1=>?_) λ g1=>?_
  ·refine .M J (by simp[g1])
  refine .z 3 J<|.B 18 J (λ g2=>?_) λ g2=>?_
  ·refine .ld 2 s1 0 J<|.ln 0 (hr.t.ext s1.ext) J<|.M J (by simp[g1,g2])
  refine .M J (by simp[g1,g2])
 refine .az J (KG (λ h=>h.elim (λ h=>h hhl) (λ h=>h.2 (ho.hZ.2 (by omega)).len.1)))<|.skip<|.seq<|.seq<|.md [0,1,2,3,4] J (λ K L' w'=>Weak ([(34,(.bool (decide ((0<c.hd.length)/\(False)))))]++K) L'/\Sat w s1.L w') ?_ ?_
 ·refine .region<|.z 3 J<|.B 28 J (λ g3=>?_) λ g3=>?_
  ·refine .ld 1 s1 0 J<|.ld 1 s1 0 J<|.cp 0 s1 (Cb _ _ (c.hd) (c.rl) _ (hr.h.ext s1.ext) (hr.l.ext s1.ext) (by omega) hhl (ho.hZ.2 (by omega)).bare) J λ _ s2=>.Z J ?_;exact⟨⟨If some (If Value.bool (by simp[g3])),J,J,J,J,J,trivial⟩,s2⟩
  refine .Z J ?_;exact⟨⟨If some (If Value.bool (by simp[g3])),J,J,J,J,J,trivial⟩,s1⟩
 rintro L' w3 ⟨hw1,s3⟩;refine .weaken _ hw1<|.az J (KG (λ h=>h.2))<|.skip<|.seq<|.h<|.ld 1 s3 0 J<|.ln 0 (hr.h.ext s3.ext) J<|.Z J<|.block<|.lq [0,1,4,36,37] J (α:=Nat) (λ k=>[(38,(.int .i64 k))]) (λ k w'=>Sat w s3.L w') (λ k=>c.hd.length-k) 0 s3 ?_;rintro k w4 s4;refine .Z J<|.seq<|.a8 J (λ c1=>?_) λ c1=>?_
 ·refine .skip<|.seq<|.block<|.seq ?_;obtain⟨x,hx⟩:∃ x,(c.hd)[k]? =some x:=⟨_,py c1⟩;have hhd:=ho.hZ.2 (by omega);have hkl:=c1;obtain⟨s,hs9⟩:∃ s,c.rl[k]? =some s:=⟨_,py (by have:=hhd.len;omega)⟩;refine .region<|.ix 1 (hr.h.ext s4.ext) J<|.le 0 (hr.h.ext s4.ext) hx J<|.Z J<|.seq<|.seq<|.oQ (λ L' w'=>Weak [(0,(.agg #[c.va,c.vt,c.vx,c.vr,c.vn,c.vh,c.vl])),(1,(.pointer (some ⟨b1,0,none⟩))),(4,(.int .i64 c.hd.length)),(5,(.int .i64 k)),(6,(.int .i64 (x))),(36,c.vh),(37,(.int .i64 c.hd.length)),(38,(.int .i64 k)),(62,(.bool false))] L'/\Sat w [aw b1 94 [c.va,c.vt,c.vx,c.vr,c.vn,c.vh,c.vl]] w') ?_ ?_
  ·rcases hhd.el k x hx with hx1|⟨t,ht,ht1,ht2,ht3,ht4⟩
   ·refine .dk [0] s4 J (pl [0,1,2,3,4,5,6,7,8,9,10,11,12,14,15,1013,1016,17,18,19] .fin) λ s5 S1=>.z 1 S1 J<|.e J (λ _ hS=>.neq J J) S1<|.z 1 S1 J<|.Gf 45 J (KG (λ h=>h hx1))<|.Z S1 J ?_;exact⟨(wk J),s5⟩
   refine .dk [0] s4 J (pl [0,1,2,3,4,5,6,7,8,9,10,11,12,14,15,1013,1016,17,18,19] .fin) λ s6 S2=>.z 1 S2 J<|.e J (λ _ hS=>.neq J J) S2<|.z 1 S2 J<|.Gt 45 J (OL (by have:=(ho.tx.nm t ht).2.2;omega))<|.a 1 S2 J (λ _ hS=>.lss J J)<|.z 1 S2 J<|.Gf 48 J (KG (by have:=(ho.tx.nm t ht).2.2;omega))<|.a 2 S2 J (λ _ hS=>.geq J J)<|.z 2 S2 J<|.Gf 53 J (KG (by have:=(ho.tx.nm t ht).2.2;have:=hhd.len.1;omega))<|.a 0 S2 J (λ _ hS=>.ch cJ J hS (i:=0) J J)<|.a 1 S2 J (λ _ hS=>.ch cJ J hS (i:=0) J J)<|.c 1 S2 (oW c (x) _ (hr.ext s6.ext) (by omega) (⟨t,ht,by omega,by omega⟩)) J λ r2 _ h2=>?_;obtain⟨ti1,tt1,rfl,htt1,htt1b,htt1e,p2⟩:=h2;have s7:=s6.au p2;have htt1l:=(sp.1 htt1).1;have S3:=s7.pk [0];refine⟨S3,?_⟩;refine .c 0 S3 (oW c ((k:Nat):Int) _ (hr.ext s7.ext) (by omega) (⟨t,ht,by omega,by omega⟩)) J λ r3 _ h3=>?_;obtain⟨ti2,tt2,rfl,htt2,htt2b,htt2e,p3⟩:=h3;have s8:=(s7.au p3).nn;have htt2l:=(sp.1 htt2).1;have S4:=s8.pk [0];refine⟨S4,?_⟩;refine .Z S4 J ?_;exact⟨⟨J,J,J,J,J,J,J,J,If some (If Value.bool (KG (λ h=>h (GR ho.tx ht htt1 htt2 ⟨by omega,by omega⟩ ⟨by omega,by omega⟩ ⟨htt1b,htt1e⟩ ⟨htt2b,htt2e⟩)))),trivial⟩,s8⟩
  rintro L' w7 ⟨hw2,s9⟩;refine .weaken _ hw2<|.az J (J)<|.skip<|.seq<|.seq<|.md [0,1,4,5,6,36,37,38] J (λ K L' w'=>Weak ([(78,(.bool (decide ((s≠(ByteArray.mk #[]))/\((!(aU s))=true)))))]++K) L'/\Sat w s9.L w') ?_ ?_
  ·refine .region<|.ld 1 s9 0 J<|.ix 1 (hr.l.ext s9.ext) J<|.le 0 (hr.l.ext s9.ext) hs9 J<|.e J (.bO J J)<|.z 1 J<|.B 70 J (λ g4=>?_) λ g4=>?_
   ·refine .ld 1 s9 0 J<|.ix 1 (hr.l.ext s9.ext) J<|.le 0 (hr.l.ext s9.ext) hs9 J<|.cp 0 s9 (cP s _) J λ _ s10=>.a 0 J (.cO J)<|.Z J ?_;exact⟨⟨If some (If Value.bool (by simp[g4])),J,J,J,J,J,J,J,J,trivial⟩,s10⟩
   refine .Z J ?_;exact⟨⟨If some (If Value.bool (by simp[g4])),J,J,J,J,J,J,J,J,trivial⟩,s9⟩
  rintro L' w9 ⟨hw3,s11⟩;refine .weaken _ hw3<|.az J (KG (λ h=>(hhd.nm s (a6 hs9)).elim (λ e=>h.1 e) (λ e=>by have:=h.2;simp[e]at this)))<|.skip<|.h<|.ld 1 s11 0 J<|.cp 1 s11 (Av _ (c.hd) _ (k) _ (hr.h.ext s11.ext) (by omega) ho.Ot hkl) J λ _ s12=>.nil<|.az J (J)<|.skip<|.U J ?_;exact ba (k+1) s12
 refine .ak<|.Z J<|.bp J J J ?_;exact⟨J,s4.pk []⟩
def lA(c:Co)(n:Nat)(w:World)(hr:RdC w c)(ho:OkC n c)(hn:n<=4):
  CallsV prog 93 [(.agg #[c.va,c.vt,c.vx,c.vr,c.vn,c.vh,c.vl])] w λ r w'=>r= .tuple #[.int .i64 ((0:Nat):Int),.int .i64 ((0:Nat):Int),.int .i64 ((0:Nat):Int)]/\Sat w [] w':=by
 refine bQ func93 J λ hs0=>.h<|.bx 0 hs0 J λ b1 _ s1 _ _=>.Z J<|.seq<|.h<|.ld 1 s1 0 J<|.cp 0 s1 (Ar _ (c.at_) _ (hr.a.ext s1.ext) ho.at_) J λ _ s2=>.Z J<|.Z J<|.az J (J)<|.skip<|.seq<|.h<|.lo 0 s2 0 J<|.cq 0 s2 (xn c n _ (hr.ext s2.ext) ho hn) J λ _ s3=>.Z J<|.Z J<|.az J (J)<|.skip<|.seq<|.h<|.lo 0 s3 0 J<|.cp 0 s3 (As c n _ (hr.ext s3.ext) ho hn) J λ _ s4=>.Z J<|.Z J<|.az J (J)<|.skip<|.seq<|.h<|.lo 0 s4 0 J<|.cp 0 s4 (uk c n _ (hr.ext s4.ext) ho hn) J λ _ s5=>.Z J<|.Z J<|.az J (J)<|.skip<|.seq<|.h<|.ld 1 s5 0 J<|.lo 0 s5 0 J<|.cq 0 s5 (Au c n _ (hr.ext s5.ext) ho hn) J λ _ s6=>.Z J<|.seq<|.trim [0,1,2,3,4,5,6,7,8,9,10,11,12,13,14] J<|.U J<|.az J (J)<|.skip<|.seq<|.h<|.lo 0 s6 0 J<|.cp 0 s6 (Aw c n _ (hr.ext s6.ext) ho hn) J λ _ s7=>.Z J<|.Z J<|.az J (J)<|.skip<|.Z J<|.ret ?_;show aG _ _ _ _ _ _;refine kq J J J J ?_;exact⟨J,s7.pk []⟩
def kA(c:Co)(n:Nat)(w:World)(hr:RdC w c)(ho:OkC n c)(hn:n<=4):
  CallsV prog 156 [(.agg #[c.va,c.vt,c.vx,c.vr,c.vn,c.vh,c.vl])] w λ r w'=>r= .bool true/\Sat w [] w':=by
 refine bQ func156 J λ hs0=>.h<|.bx 0 hs0 J λ b1 _ s1 _ _=>.Z J<|.h<|.lo 0 s1 0 J<|.cp 0 s1 (lA c n _ (hr.ext s1.ext) ho hn) J λ _ s2=>.Z J<|.Z J<|.aC J J ?_;exact⟨J,s2.pk []⟩
