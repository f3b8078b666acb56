/-The walks of the functions of F42v,printed by our own program (kwgen.py) out of our descriptions (base.py). -/
import Derived.Test.YtcmldpiicnobnaaGreatDoorF42n
import Derived.Test.YtcmldpiicnobnaaGreatDoorM06
import Derived.Test.YtcmldpiicnobnaaGreatDoorKsc
import Derived.Test.YtcmldpiicnobnaaGreatDoorF03
set_option linter.all false
set_option maxHeartbeats 1000000
set_option maxRecDepth 100000
open List
open Go.Proofs.Tryz
namespace Go.Proofs.YtcmldpiicnobnaaGreatDoor
open Go.RowKit Go.Kw
def pf(v:Value)(l:List ByteArray)(w:World)(hv:RdL w v ah l)(hn:l.length<=9223372036854775807):
  CallsV prog 47 [v] w λ r w'=>r= .bool (delB l)/\Sat w [] w':=by
 refine bQ func47 J λ hs0=>.Z J<|.seq<|.h<|.ln 1 (hv.ext hs0.ext) J<|.Z J<|.block<|.lq [0,5,6] J (α:=Nat) (λ k=>[(7,(.int .i64 k))]) (λ k w'=>Sat w [] w'/\(k<=l.length)/\(∀ i,i<k->∀ x,l[i]? =some x->aU x=true/\(0<i->∀ y,l[i-1]? =some y->SLt y x))) (λ k=>l.length-k) 0 ⟨hs0,IN _,λ i hi=>absurd hi (P9 i)⟩ ?_;rintro k w1 ⟨s1,hk,hall⟩;refine .Z J<|.seq<|.a8 J (λ c1=>?_) λ c1=>?_
 ·refine .skip<|.seq<|.block<|.seq ?_;obtain⟨x,hx⟩:∃ x,(l)[k]? =some x:=⟨_,py c1⟩;refine .region<|.ix 1 (hv.ext s1.ext) J<|.le 0 (hv.ext s1.ext) hx J<|.Z J<|.seq ?_;obtain⟨y,hy⟩:∃ y:ByteArray,0<k->l[k-1]? =some y:=by rcases PB k with h|h;exact⟨ByteArray.empty,λ h9=>absurd h9 (by omega)⟩;exact⟨_,λ _=>py (show k-1<l.length by omega)⟩
  refine .md [0,3,4,5,6,7] J (λ K L' w'=>Weak ([(27,(.bool (decide (((!(aU x))=true)\/((0<k)/\(¬ SLt y x))))))]++K) L'/\Sat w [] w') ?_ ?_
  ·refine .region<|.cp 1 s1 (o3 x _) J λ _ s2=>.e J (.cO J)<|.z 1 J ?_;by_cases g1:(!(aU x))=true
   ·refine .Gt 15 J (g1)<|.Z J ?_;exact⟨⟨If some (If Value.bool (by simp[g1])),J,J,J,J,J,J,trivial⟩,s2⟩
   refine .Gf 15 J (by simpa using g1)<|.z 3 J<|.B 18 J (λ g2=>?_) λ g2=>?_
   ·refine .ix 3 (hv.ext s2.ext) J<|.le 0 (hv.ext s2.ext) (hy (by omega)) J<|.a 1 J (.qN J J)<|.Z J ?_;exact⟨⟨If some (If Value.bool (by simp[g1,g2])),J,J,J,J,J,J,trivial⟩,s2⟩
   refine .Z J ?_;exact⟨⟨If some (If Value.bool (by simp[g1,g2])),J,J,J,J,J,J,trivial⟩,s2⟩
  rintro L' w3 ⟨hw1,s3⟩;refine .weaken _ hw1<|.a8 J (λ c2=>?_) λ c2=>?_
  ·refine .Z J<|.aC J J ?_;have hno:delB l=false:=Gn.2 λ h9=>by
    obtain⟨h1,h2⟩:=h9.1 k x hx;rcases c2 with h3|h3
    ·rw[h1]at h3;cases h3
    exact h3.2 (h2 (by omega) y (hy (by omega)))
   exact⟨by rw[hno],s3⟩
  refine .skip<|.U J ?_;exact ba (k+1) ⟨s3,by omega,λ i hi z hz=>by
   rcases OI i k with h|h
   ·exact hall i h z hz
   ·have e:i=k:=by omega
    subst e;rw[hx]at hz;cases hz;refine⟨by cases h8:aU x<;>simp_all,λ h0 q hq=>?_⟩;rw[hy h0]at hq;cases hq;exact Px λ h7=>c2 (.inr ⟨by omega,h7⟩)⟩
 refine .ak<|.h<|.ln 1 (hv.ext s1.ext) J<|.Z J<|.aC J J ?_;exact⟨If Value.bool (by unfold delB;exact PN.2 ⟨λ h9=>⟨pr hall (by omega),h9⟩,λ h9=>h9.2⟩),s1⟩
def CN(B:Nat)(x y:ByteArray×Bool)(w:World)(h1:w.cell? ⟨B,0,none⟩=some (.string y.1)):
  CallsV prog 87 [((aE).ag x),(.pointer (some ⟨B,0,none⟩))] w λ r w'=>r= .bool (decide (x.1=y.1))/\Sat w [] w':=by
 refine bQ func87 J λ hs0=>.h<|.bx 0 hs0 J λ b1 _ s1 _ _=>.Z J<|.h<|.ld 1 s1 0 J<|.a 1 J (.load Ms J (s1.ext _ _ h1))<|.e J (.cY J J)<|.Z J<|.aC J J ?_;exact⟨J,s1.pk []⟩
def uG(v:Value)(l:List (ByteArray×Bool))(f:FuncId)(cap:Array Value)(p:ByteArray×Bool->Bool)(w:World)(hv:RdL w v aE l)(hn:l.length<=1000000000)(ent:Enters prog f)(hf:∀ x w',Sat w [] w'->CallsV prog f ([aE.ag x]++cap.toList) w' λ r w''=>r= .bool (p x)/\Sat w' [] w''):
  CallsV prog 122 [v,(.func (.func f) #[] cap)] w λ r w'=>∃ z:Int,r= .int .i64 z/\(0<=z↔l.any p=true)/\Sat w [] w':=by
 refine bQ func122 J λ hs0=>.Z J<|.seq<|.h<|.ln 1 (hv.ext hs0.ext) J<|.Z J<|.block<|.lq [0,1,7] J (α:=Nat) (λ k=>[(8,(.int .i64 k))]) (λ k w'=>Sat w [] w'/\(k<=l.length)/\(∀ i,i<k->∀ x,l[i]? =some x->p x=false)) (λ k=>l.length-k) 0 ⟨hs0,IN _,λ i hi=>absurd hi (P9 i)⟩ ?_;rintro k w1 ⟨s1,hk,hall⟩;refine .Z J<|.seq<|.a8 J (λ c1=>?_) λ c1=>?_
 ·refine .skip<|.seq<|.block<|.Z J<|.seq ?_;obtain⟨x,hx⟩:∃ x,(l)[k]? =some x:=⟨_,py c1⟩;refine .region<|.ix 3 (hv.ext s1.ext) J<|.lg 0 (hv.ext s1.ext) hx J<|.f J (.sN ent J J ((hf x _ s1).mono λ r1 _ h1=>?_));obtain⟨rfl,p1⟩:=h1;have s2:=s1.au p1;refine .nil<|.cond J (λ c2=>?_) (λ c2=>?_)
  ·refine .Z J<|.aC J J ?_;exact⟨_,J,⟨λ _=>Ro.2 ⟨x,a6 hx,c2⟩,λ _=>by omega⟩,s2⟩
  refine .skip<|.U J ?_;exact ba (k+1) ⟨s2,by omega,λ i hi z hz=>by
   rcases OI i k with h|h
   ·exact hall i h z hz
   ·have e:i=k:=by omega
    subst e;rw[hx]at hz;cases hz;exact c2⟩
 refine .ak<|.Z J<|.aC J J ?_;exact⟨_,J,⟨λ h9=>absurd h9 (by decide),λ h9=>by
   obtain⟨x,hx,hp⟩:=Ro.1 h9;obtain⟨i,hi⟩:=OV hx;rw[hall i (by have:=(sp.1 hi).1;omega) x hi]at hp;cases hp⟩,s1⟩
def pg(v:Value)(l:List (ByteArray×Bool))(f:FuncId)(cap:Array Value)(p:ByteArray×Bool->Bool)(w:World)(hv:RdL w v aE l)(hn:l.length<=1000000000)(ent:Enters prog f)(hf:∀ x w',Sat w [] w'->CallsV prog f ([aE.ag x]++cap.toList) w' λ r w''=>r= .bool (p x)/\Sat w' [] w''):
  CallsV prog 86 [v,(.func (.func f) #[] cap)] w λ r w'=>r= .bool (l.any p)/\Sat w [] w':=by
 refine bQ func86 J λ hs0=>.Z J<|.h<|.c 2 (uG _ (l) f cap p _ (hv.ext hs0.ext) hn ent (λ x w3 hq=>hf x w3 (hs0.au hq))) J λ r1 _ h1=>?_;obtain⟨iz1,rfl,hiz1,p1⟩:=h1;have s1:=hs0.au p1;refine .e J (.geq J J)<|.Z J<|.aC J J ?_;exact⟨If Value.bool (by rcases Bool.eq_false_or_eq_true (l.any p)with h|h;rw[h];exact OL (hiz1.2 h);rw[h];exact KG (λ h9=>by rw[hiz1.1 h9]at h;cases h)),s1⟩
def sY(v:Value)(l:List (ByteArray×Bool))(w:World)(hv:RdL w v aE l)(hn:l.length<=1000000):
  CallsV prog 45 [v] w λ r w'=>r= .bool (atsB l)/\Sat w [] w':=by
 refine bQ func45 J λ hs0=>.Z J<|.seq<|.h<|.ln 1 (hv.ext hs0.ext) J<|.Z J<|.block<|.lq [0,5,6] J (α:=Nat) (λ k=>[(7,(.int .i64 k))]) (λ k w'=>Sat w [] w'/\(k<=l.length)/\(∀ i,i<k->xH l i)) (λ k=>l.length-k) 0 ⟨hs0,IN _,λ i hi=>absurd hi (P9 i)⟩ ?_;rintro k w1 ⟨s1,hk,hall⟩;refine .Z J<|.seq<|.a8 J (λ c1=>?_) λ c1=>?_
 ·refine .skip<|.seq<|.block<|.seq ?_;obtain⟨x,hx⟩:∃ x,(l)[k]? =some x:=⟨_,py c1⟩;refine .region<|.ix 1 (hv.ext s1.ext) J<|.lg 0 (hv.ext s1.ext) hx J<|.al 0 s1 J λ b1 _ s2 _ _=>.sa 1 s2 0 J ((aE).one _) λ _ s3 _=>.nil<|.seq<|.md [0,3,4,5,6,7] J (λ K L' w'=>Weak ([(22,(.bool (decide (((!(aU x.1))=true)\/(((((l).take k).drop 0).any λ z=>decide (z.1=x.1))=true)))))]++K) L'/\Sat w s3.L w') ?_ ?_
  ·refine .region<|.ld 1 s3 0 J<|.cq 0 s3 (o3 x.1 _) J λ _ s4=>.e J (.cO J)<|.z 1 J ?_;by_cases g1:(!(aU x.1))=true
   ·refine .Gt 16 J (g1)<|.Z J ?_;exact⟨⟨If some (If Value.bool (by simp[g1])),J,J,J,J,J,J,trivial⟩,s4⟩
   refine .Gf 16 J (by simpa using g1)<|.a 2 J (.aV (E:=aE) (a:=0) (c:=k) jF J (hv.ext s4.ext) J ⟨_,J⟩ (IN _) (by omega))<|.a 0 J (.nS J)<|.cp 0 s4 (pg _ (((l).take k).drop 0) 87 #[(.pointer (some ⟨b1,0,none⟩))] (λ z=>decide (z.1=x.1)) _ (((hv.ext s4.ext)).sub (a:=0) (b:=k) (IN _) (by omega)) (by rw[OJ,M2];omega) MC (λ z w3 hq=>CN b1 z x w3 (hq.ext _ _ (s4.cell (i:=0) (j:=0) J J)))) J λ _ s5=>.Z J ?_;exact⟨⟨If some (If Value.bool (by simp[g1])),J,J,J,J,J,J,trivial⟩,s5⟩
  rintro L' w6 ⟨hw1,s6⟩;refine .weaken _ hw1<|.a8 J (λ c2=>?_) λ c2=>?_
  ·refine .Z J<|.aC J J ?_;have hno:atsB l=false:=Gp.2 λ h9=>by
    obtain⟨h1,h2⟩:=h9.1 k x hx;rcases c2 with h3|h3
    ·rw[h1]at h3;cases h3
    rw[PK,h2]at h3;cases h3
   exact⟨by rw[hno],s6.pk []⟩
  refine .skip<|.U J ?_;exact ba (k+1) ⟨s6.pk [],by omega,λ i hi z hz=>by
   rcases OI i k with h|h
   ·exact hall i h z hz
   ·have e:i=k:=by omega
    subst e;rw[hx]at hz;cases hz;have h7:=c2;rw[PK]at h7;exact⟨by cases h8:aU x.1<;>simp_all,R7.2 λ h8=>h7 (.inr h8)⟩⟩
 refine .ak<|.seq<|.cu 2 ((1<=l.length)/\(l.length<=8)) ?_ ?_
 ·refine .ln 1 (hv.ext s1.ext) J<|.z 2 J<|.B 27 J (λ g2=>?_) λ g2=>?_
  ·refine .ln 1 (hv.ext s1.ext) J<|.M J (by simp[g2])
  refine .M J (by simp[g2])
 refine .aC J J ?_;exact⟨If Value.bool (by unfold atsB;exact PN.2 ⟨λ h9=>⟨λ i z hz=>hall i (by have:=(sp.1 hz).1;omega) z hz,h9⟩,λ h9=>h9.2⟩),s1.pk []⟩
def Gd(v:Value)(l:List Int)(x:Int)(w:World)(hv:RdL w v (Kw.encI .i64) l)(hn:l.length<=1000000):
  CallsV prog 88 [v,(.int .i64 (x))] w λ r w'=>∃ z:Int,r= .int .i64 z/\(0<=z↔x∈l)/\Sat w [] w':=by
 refine bQ func88 J λ hs0=>.Z J<|.seq<|.h<|.ln 1 (hv.ext hs0.ext) J<|.Z J<|.block<|.lq [0,1,7] J (α:=Nat) (λ k=>[(8,(.int .i64 k))]) (λ k w'=>Sat w [] w'/\(k<=l.length)/\(∀ i,i<k->∀ z,l[i]? =some z->x≠z)) (λ k=>l.length-k) 0 ⟨hs0,IN _,λ i hi=>absurd hi (P9 i)⟩ ?_;rintro k w1 ⟨s1,hk,hall⟩;refine .Z J<|.seq<|.a8 J (λ c1=>?_) λ c1=>?_
 ·refine .skip<|.seq<|.block<|.Z J<|.seq ?_;obtain⟨y,hy⟩:∃ y,(l)[k]? =some y:=⟨_,py c1⟩;refine .region<|.ix 3 (hv.ext s1.ext) J<|.le 0 (hv.ext s1.ext) hy J<|.e J (.eql J J)<|.nil<|.a8 J (λ c2=>?_) λ c2=>?_
  ·refine .Z J<|.aC J J ?_;exact⟨_,J,⟨λ _=>by rw[c2];exact OD hy,λ _=>by omega⟩,s1⟩
  refine .skip<|.U J ?_;exact ba (k+1) ⟨s1,by omega,λ i hi z hz=>by
   rcases OI i k with h|h
   ·exact hall i h z hz
   ·have e:i=k:=by omega
    subst e;rw[hy]at hz;cases hz;exact c2⟩
 refine .ak<|.Z J<|.aC J J ?_;exact⟨_,J,⟨λ h9=>absurd h9 (by decide),λ h9=>by
   obtain⟨i,hi⟩:=OV h9;exact absurd J (hall i (by have:=(sp.1 hi).1;omega) x hi)⟩,s1⟩
def xA(v:Value)(l:List Int)(x:Int)(w:World)(hv:RdL w v (Kw.encI .i64) l)(hn:l.length<=1000000):
  CallsV prog 46 [v,(.int .i64 (x))] w λ r w'=>r= .bool (decide (x∈l))/\Sat w [] w':=by
 refine bQ func46 J λ hs0=>.Z J<|.h<|.c 2 (Gd _ (l) (x) _ (hv.ext hs0.ext) hn) J λ r1 _ h1=>?_;obtain⟨iz1,rfl,hiz1,p1⟩:=h1;have s1:=hs0.au p1;refine .e J (.geq J J)<|.Z J<|.aC J J ?_;exact⟨If Value.bool (PN.2 hiz1),s1⟩
def yJ(av pv rv:Value)(al:List (ByteArray×Bool))(nx jr:Int)(pl:List Pc)(w:World)(ha:RdL w av aE al)(hna:al.length<=200000)(hp:RdL w pv bM pl)(hnp:pl.length<=200000)(hrow:∀ p∈pl,RdL w p.sv.val ah p.ns)(hdl:∀ p∈pl,p.ns.length<=9223372036854775807)(hrv:rv.oneCell'=true):
  CallsV prog 17 [(.agg #[av,(.int .i64 (nx)),(.int .i64 (jr)),pv,rv])] w λ r w'=>r= .bool (stB al nx jr pl)/\Sat w [] w':=by
 refine bQ func17 J λ hs0=>.h<|.bx 0 hs0 J λ b1 _ s1 _ _=>.Z J<|.seq<|.seq<|.md [0,1,2] J (λ K L' w'=>Weak ([(32,(.bool (decide ((((((!(atsB al))=true)\/((1000000000:Int)<(nx:Int)))\/((jr:Int)<(1:Int)))\/((nx:Int)<=(jr:Int)))\/(16<pl.length)))))]++K) L'/\Sat w s1.L w') ?_ ?_
 ·refine .region<|.ld 1 s1 0 J<|.cp 0 s1 (sY _ (al) _ (ha.ext s1.ext) (by omega)) J λ _ s2=>.e J (.cO J)<|.z 1 J ?_;by_cases g1:(!(atsB al))=true
  ·refine .Gt 10 J (g1)<|.Z J ?_;exact⟨⟨If some (If Value.bool (by simp[g1])),J,J,J,trivial⟩,s2⟩
  refine .Gf 10 J (by simpa using g1)<|.ld 1 s2 0 J<|.a 0 J (.gtr J J)<|.z 2 J<|.B 15 J (λ g2=>?_) λ g2=>?_
  ·refine .Z J ?_;exact⟨⟨If some (If Value.bool (by simp[g1,g2])),J,J,J,trivial⟩,s2⟩
  refine .ld 1 s2 0 J<|.a 0 J (.lss J J)<|.z 2 J<|.B 20 J (λ g3=>?_) λ g3=>?_
  ·refine .Z J ?_;exact⟨⟨If some (If Value.bool (by simp[g1,g2,g3])),J,J,J,trivial⟩,s2⟩
  refine .ld 1 s2 0 J<|.ld 1 s2 0 J<|.a 0 J (.geq J J)<|.z 2 J<|.B 27 J (λ g4=>?_) λ g4=>?_
  ·refine .Z J ?_;exact⟨⟨If some (If Value.bool (by simp[g1,g2,g3,g4])),J,J,J,trivial⟩,s2⟩
  refine .ld 1 s2 0 J<|.ln 0 (hp.ext s2.ext) J<|.Z J ?_;exact⟨⟨If some (If Value.bool (by simp[g1,g2,g3,g4])),J,J,J,trivial⟩,s2⟩
 rintro L' w3 ⟨hw1,s3⟩;refine .weaken _ hw1<|.a8 J (λ c1=>?_) λ c1=>?_
 ·refine .Z J<|.aC J J ?_;have hno:stB al nx jr pl=false:=jd.2 λ h9=>by
   obtain⟨h1,h2,h3,h4,h5,_⟩:=h9;have h8:=c1;rw[lQ.2 h1]at h8;simp only[RR,Pm,false_or]at h8;omega
  exact⟨by rw[hno],s3.pk []⟩
 refine .skip<|.seq ?_;have hok1:atsOk al/\nx<=1000000000/\1<=jr/\jr<nx/\pl.length<=16:=by have h9:=c1;simp only[not_or]at h9;exact⟨lQ.1 (by simpa using h9.1.1.1.1),by omega,by omega,by omega,by omega⟩
 refine .region<|.ld 1 s3 0 J<|.f J (.cE (Kw.encI .i64) jr bD J s3 J λ v1 _ s5 _=>?_);refine .Z J<|.seq<|.h<|.ld 1 s5 0 J<|.ln 0 (hp.ext s5.ext) J<|.Z J<|.block<|.lq [1,37,38] J (α:=Nat×Value×List Int) (λ(k,uv,us)=>[(3,uv),(39,(.int .i64 k))]) (λ(k,uv,us) w'=>Sat w (s5.U [(1,cL uv 3 (Kw.encI .i64) (us))]) w'/\(k<=pl.length)/\(us=jr::(pl.take k).map Pc.f)/\(∀ i,i<k->xI nx jr pl i)) (λ(k,uv,us)=>pl.length-k) (0,v1,[jr]) ⟨s5,IN _,J,λ i hi=>absurd hi (P9 i)⟩ ?_;rintro⟨k,uv,us⟩ w5 ⟨s6,hk,hus,hall⟩;refine .Z J<|.seq<|.a8 J (λ c2=>?_) λ c2=>?_
 ·refine .skip<|.seq<|.block<|.seq ?_;obtain⟨x,hx⟩:∃ x,(pl)[k]? =some x:=⟨_,py c2⟩;have hxd:=hdl x (a6 hx);refine .region<|.ix 0 (hp.ext s6.ext) J<|.lg 0 (hp.ext s6.ext) hx J<|.al 0 s6 J λ b2 _ s7 _ _=>?_;have s7:=s7.nn;refine .sa 0 s7 2 J ((bM).one _) λ _ s8 _=>.nil<|.seq<|.seq<|.md [1,3,5,37,38,39] J (λ K L' w'=>Weak ([(64,(.bool (decide (((((x.f:Int)<(1:Int))\/((nx:Int)<=(x.f:Int)))\/(x.f∈us))\/((!(delB x.ns))=true)))))]++K) L'/\Sat w s8.L w') ?_ ?_
  ·refine .region<|.ld 1 s8 2 J<|.e J (.lss J J)<|.z 1 J<|.B 46 J (λ g5=>?_) λ g5=>?_
   ·refine .Z J ?_;exact⟨⟨If some (If Value.bool (by simp[g5])),J,J,J,J,J,J,trivial⟩,s8⟩
   refine .ld 1 s8 2 J<|.ld 1 s8 0 J<|.a 0 J (.geq J J)<|.z 2 J<|.B 53 J (λ g6=>?_) λ g6=>?_
   ·refine .Z J ?_;exact⟨⟨If some (If Value.bool (by simp[g5,g6])),J,J,J,J,J,J,trivial⟩,s8⟩
   refine .ld 2 s8 2 J<|.cp 0 s8 (xA _ (us) (x.f) _ (s8.aa 1 J) (by rw[hus];simp only[KW,OC,M2];omega)) J λ _ s9=>.z 2 J<|.B 59 J (λ g7=>?_) λ g7=>?_
   ·refine .Z J ?_;exact⟨⟨If some (If Value.bool (by simp[g5,g6,g7])),J,J,J,J,J,J,trivial⟩,s9⟩
   refine .ld 1 s9 2 J<|.cq 0 s9 (pf _ (x.ns) _ ((hrow x (a6 hx)).ext s9.ext) (hxd)) J λ _ s10=>.a 0 J (.cO J)<|.Z J ?_;exact⟨⟨If some (If Value.bool (by simp[g5,g6,g7])),J,J,J,J,J,J,trivial⟩,s10⟩
  rintro L' w10 ⟨hw2,s11⟩;refine .weaken _ hw2<|.a8 J (λ c3=>?_) λ c3=>?_
  ·refine .Z J<|.aC J J ?_;have hno:stB al nx jr pl=false:=jd.2 λ h9=>by
    obtain⟨h1,h2,h3,h4⟩:=h9.2.2.2.2.2 k x hx;rcases c3 with((h5|h5)|h5)|h5
    ·omega
    ·omega
    ·rw[hus]at h5;exact h3 h5
    rw[uO.2 h4]at h5;cases h5
   exact⟨by rw[hno],s11.pk []⟩
  refine .skip<|.region<|.ld 2 s11 2 J<|.f J (.cE (Kw.encI .i64) x.f bD J s11 J λ v2 _ s13 _=>?_);refine .ap 0 s13 1 (s13.aa 3 J) J (h1:=by rw[hus];simp only[KW,OC,M2,Oy];omega) (h2:=by rw[hus];simp only[KW,OC,M2,Oy];omega) λ v3 _ s14 _=>?_;refine .Z J<|.U J ?_;have s15:=(s14.pk [0,1,2]).pk [0,1];exact ba (k+1,v3,us++[x.f]) ⟨s15,by omega,by rw[hus,aB hx,Pw]<;>rfl,λ i hi z hz=>by
   rcases OI i k with h|h
   ·exact hall i h z hz
   ·have e:i=k:=by omega
    subst e;rw[hx]at hz;cases hz;have h7:=c3;simp only[not_or]at h7;exact⟨by omega,by omega,by rw[<-hus];exact h7.1.2,uO.1 (by simpa using h7.2)⟩⟩
 refine .ak<|.Z J<|.aC J J ?_;have hyes:stB al nx jr pl=true:=dE.2 ⟨hok1.1,hok1.2.1,hok1.2.2.1,hok1.2.2.2.1,hok1.2.2.2.2,λ i z hz=>hall i (by have:=(sp.1 hz).1;omega) z hz⟩;exact⟨by rw[hyes],s6.pk []⟩
def AW(v:Value)(l:List (ByteArray×Bool))(w:World)(hv:RdL w v aE l)(hn:l.length<=1000000):
  CallsV prog 128 [v] w λ r w'=>∃ i e:Int,r= .tuple #[.int .i64 i,.int .i64 e]/\(e=0↔atsOk l)/\Sat w [] w':=by
 refine bQ func128 J λ hs0=>.Z J<|.seq<|.h<|.ln 1 (hv.ext hs0.ext) J<|.Z J<|.a8 J (λ c1=>?_) λ c1=>?_
 ·refine .Z J<|.bp J J J ?_;have hno:¬ atsOk l:=λ h9=>by
   have h8:=h9.2.1;omega
  exact⟨_,15,J,⟨λ h9=>absurd h9 (by decide),λ h9=>absurd h9 hno⟩,hs0.pk []⟩
 refine .skip<|.seq<|.h<|.ln 1 (hv.ext hs0.ext) J<|.Z J<|.a8 J (λ c2=>?_) λ c2=>?_
 ·refine .Z J<|.bp J J J ?_;have hno:¬ atsOk l:=λ h9=>by
   have h8:=h9.2.2;omega
  exact⟨_,2,J,⟨λ h9=>absurd h9 (by decide),λ h9=>absurd h9 hno⟩,hs0.pk []⟩
 refine .skip<|.seq<|.h<|.ln 1 (hv.ext hs0.ext) J<|.Z J<|.block<|.lq [0,14,15] J (α:=Nat) (λ k=>[(16,(.int .i64 k))]) (λ k w'=>Sat w [] w'/\(k<=l.length)/\(∀ i,i<k->xH l i)) (λ k=>l.length-k) 0 ⟨hs0,IN _,λ i hi=>absurd hi (P9 i)⟩ ?_;rintro k w1 ⟨s3,hk,hall⟩;refine .Z J<|.seq<|.a8 J (λ c3=>?_) λ c3=>?_
 ·refine .skip<|.seq<|.block<|.seq ?_;obtain⟨x,hx⟩:∃ x,(l)[k]? =some x:=⟨_,py c3⟩;refine .region<|.ix 1 (hv.ext s3.ext) J<|.lg 0 (hv.ext s3.ext) hx J<|.al 0 s3 J λ b1 _ s4 _ _=>.sa 1 s4 0 J ((aE).one _) λ _ s5 _=>.nil<|.seq<|.h<|.ld 1 s5 0 J<|.cq 0 s5 (cP x.1 _) J λ _ s6=>.e J (.cO J)<|.nil<|.cond J (λ c4=>?_) (λ c4=>?_)
  ·refine .Z J<|.bp J J J ?_;have hno:¬ atsOk l:=λ h9=>by
    have h8:=(h9.1 k x hx).1;rw[h8]at c4;cases c4
   exact⟨_,4,J,⟨λ h9=>absurd h9 (by decide),λ h9=>absurd h9 hno⟩,s6.pk []⟩
  refine .skip<|.h<|.a 2 J (.aV (E:=aE) (a:=0) (c:=k) jF J (hv.ext s6.ext) J ⟨_,J⟩ (IN _) (by omega))<|.ln 0 (((hv.ext s6.ext)).sub (a:=0) (b:=k) (IN _) (by omega)) J<|.Z J<|.block<|.lq [0,4,5,14,15,16,28,29] J (α:=Nat) (λ j=>[(30,(.int .i64 j))]) (λ j w'=>Sat w s6.L w'/\(∀ i,i<j->∀ q,(((l).take k).drop 0)[i]? =some q->x.1≠q.1)) (λ j=>(((l).take k).drop 0).length-j) 0 ⟨s6,λ i hi=>absurd hi (P9 i)⟩ ?_;rintro j w5 ⟨s8,hin⟩;refine .Z J<|.seq<|.a8 J (λ c5=>?_) λ c5=>?_
  ·refine .skip<|.seq<|.block<|.seq ?_;obtain⟨y,hy⟩:∃ y,(((l).take k).drop 0)[j]? =some y:=⟨_,py c5⟩;have hjl:j<k:=by have h9:=c5;rw[OJ,M2]at h9;omega
   refine .region<|.ix 0 (((hv.ext s8.ext)).sub (a:=0) (b:=k) (IN _) (by omega)) J<|.lg 0 (((hv.ext s8.ext)).sub (a:=0) (b:=k) (IN _) (by omega)) hy J<|.al 0 s8 J λ b2 _ s9 _ _=>.sa 0 s9 1 J ((aE).one _) λ _ s10 _=>.nil<|.h<|.ld 1 s10 0 J<|.ld 1 s10 1 J<|.e J (.cY J J)<|.nil<|.a8 J (λ c6=>?_) λ c6=>?_
   ·refine .Z J<|.bp J J J ?_;have hno:¬ atsOk l:=λ h9=>by
     have h8:=(h9.1 k x hx).2;rw[any_eq_false]at h8;have hyl:l[j]? =some y:=by have h7:=hy;rw[PK,Pg,Ow (by omega)]at h7;exact h7
     exact h8 y (OD (by rw[Pg,Ow (by omega)];exact hyl)) (OL (c6).symm)
    exact⟨_,5,J,⟨λ h9=>absurd h9 (by decide),λ h9=>absurd h9 hno⟩,s10.pk []⟩
   refine .skip<|.U J ?_;exact ba (j+1) ⟨s10.pk [0],λ i hi q hq=>by
   rcases OI i j with h|h
   ·exact hin i h q hq
   ·have e:i=j:=by omega
    subst e;rw[hy]at hq;cases hq;exact c6⟩
  refine .ak ?_;have hjn:=c5;refine .U J ?_;exact ba (k+1) ⟨s8.pk [],by omega,λ i hi z hz=>by
   rcases OI i k with h|h
   ·exact hall i h z hz
   ·have e:i=k:=by omega
    subst e;rw[hx]at hz;cases hz;exact⟨by cases h8:aU x.1<;>simp_all,any_eq_false.2 λ q hq=>by
     obtain⟨m,hm⟩:=OV hq;have h7:=(sp.1 hm).1;have h6:m<j:=by rw[M2]at h7;have h5:=hjn;rw[OJ,M2]at h5;omega
     have h4:=hin m h6 q (by rw[PK];exact hm);simpa using λ e=>h4 e.symm⟩⟩
 refine .ak<|.Z J<|.bp J J J ?_;have hyes:atsOk l:=⟨λ i z hz=>hall i (by have:=(sp.1 hz).1;omega) z hz,by omega,by omega⟩;exact⟨_,0,J,⟨λ _=>hyes,λ _=>J⟩,s3.pk []⟩
def xB(av:Value)(l:List (ByteArray×Bool))(w:World)(ha:RdL w av aE l):
  CallsV prog 129 [(.agg #[av,(.slice none 0 0),(.slice none 0 0),(.slice none 0 0),(.slice none 0 0),(.slice none 0 0),(.slice none 0 0)])] w λ r w'=>r= .tuple #[.int .i64 0,.int .i64 0]/\Sat w [] w':=by
 refine bQ func129 J λ hs0=>.h<|.bx 0 hs0 J λ b1 _ s1 _ _=>.Z J<|.seq<|.h<|.ld 1 s1 0 J<|.e J (.iw (l:=([]:List Nat)) (E:=ae .u8) underlying89 J (RdL.nil _ _))<|.Z J<|.az J (J)<|.skip<|.seq<|.h<|.ld 1 s1 0 J<|.e J (.iw (l:=([]:List Nat)) (E:=ae .u8) underlying89 J (RdL.nil _ _))<|.Z J<|.block<|.lq [1,14,15,16] J (α:=Unit) (λ _=>[]) (λ _ w'=>Sat w s1.L w') (λ _=>0) () s1 ?_;rintro _ w2 s2;refine .Z J<|.seq<|.az J (J)<|.ak<|.Z J<|.bp J J J ?_;exact⟨J,s2.pk []⟩
def AX(av:Value)(l:List (ByteArray×Bool))(w:World)(ha:RdL w av aE l):
  CallsV prog 130 [(.agg #[av,(.slice none 0 0),(.slice none 0 0),(.slice none 0 0),(.slice none 0 0),(.slice none 0 0),(.slice none 0 0)])] w λ r w'=>r= .tuple #[.int .i64 0,.int .i64 0]/\Sat w [] w':=by
 refine bQ func130 J λ hs0=>.h<|.bx 0 hs0 J λ b1 _ s1 _ _=>.Z J<|.h<|.ld 1 s1 0 J<|.e J (.iw (l:=([]:List Nat)) (E:=ae .u8) underlying89 J (RdL.nil _ _))<|.Z J<|.seq<|.h<|.ld 1 s1 0 J<|.e J (.iw (l:=([]:List Nat)) (E:=ae .u8) underlying90 J (RdL.nil _ _))<|.Z J<|.az J (J)<|.skip<|.seq<|.h<|.ld 1 s1 0 J<|.e J (.iw (l:=([]:List Nat)) (E:=ae .u8) underlying90 J (RdL.nil _ _))<|.a 3 J (.MG underlying4 J J)<|.nil<|.az J (Da (J) (J) J)<|.skip<|.Z J<|.seq<|.h<|.ld 1 s1 0 J<|.e J (.iw (l:=([]:List Nat)) (E:=ae .u8) underlying90 J (RdL.nil _ _))<|.Z J<|.block<|.lq [1,4,5,26,27,28] J (α:=Unit) (λ _=>[]) (λ _ w'=>Sat w s1.L w') (λ _=>0) () s1 ?_;rintro _ w2 s2;refine .Z J<|.seq<|.az J (J)<|.ak<|.Z J<|.bp J J J ?_;exact⟨J,s2.pk []⟩
def uH(av:Value)(l:List (ByteArray×Bool))(w:World)(ha:RdL w av aE l):
  CallsV prog 131 [(.agg #[av,(.slice none 0 0),(.slice none 0 0),(.slice none 0 0),(.slice none 0 0),(.slice none 0 0),(.slice none 0 0)])] w λ r w'=>r= .tuple #[.int .i64 0,.int .i64 0]/\Sat w [] w':=by
 refine bQ func131 J λ hs0=>.h<|.bx 0 hs0 J λ b1 _ s1 _ _=>.Z J<|.seq<|.h<|.ld 1 s1 0 J<|.e J (.iw (l:=([]:List Nat)) (E:=ae .u8) underlying91 J (RdL.nil _ _))<|.Z J<|.az J (J)<|.skip<|.seq<|.h<|.ld 1 s1 0 J<|.e J (.iw (l:=([]:List Nat)) (E:=ae .u8) underlying91 J (RdL.nil _ _))<|.Z J<|.block<|.lq [1,15,16,17] J (α:=Unit) (λ _=>[]) (λ _ w'=>Sat w s1.L w') (λ _=>0) () s1 ?_;rintro _ w2 s2;refine .Z J<|.seq<|.az J (J)<|.ak<|.Z J<|.bp J J J ?_;exact⟨J,s2.pk []⟩
def AY(av:Value)(l:List (ByteArray×Bool))(w:World)(ha:RdL w av aE l):
  CallsV prog 132 [(.slice none 0 0),(.agg #[av,(.slice none 0 0),(.slice none 0 0),(.slice none 0 0),(.slice none 0 0),(.slice none 0 0),(.slice none 0 0)])] w λ r w'=>r= .tuple #[.int .i64 0,.int .i64 0]/\Sat w [] w':=by
 refine bQ func132 J λ hs0=>.h<|.bx 0 hs0 J λ b1 _ s1 _ _=>.Z J<|.seq<|.h<|.a 1 J (.iw (l:=([]:List Nat)) (E:=ae .u8) underlying92 J (RdL.nil _ _))<|.Z J<|.az J (J)<|.skip<|.h<|.a 1 J (.iw (l:=([]:List Nat)) (E:=ae .u8) underlying92 J (RdL.nil _ _))<|.f J (.eC (ae .i64) (0) (l:=0) (c:=0) bD J s1 J J (by omega) (by omega) (by omega) λ v1 _ s2 _=>?_);refine .Z J<|.seq<|.h<|.a 1 J (.iw (l:=([]:List Nat)) (E:=ae .u8) underlying92 J (RdL.nil _ _))<|.Z J<|.block<|.lq [0,3,6,18,19,20] J (α:=Unit) (λ _=>[]) (λ _ w'=>Sat w s2.L w') (λ _=>0) () s2 ?_;rintro _ w3 s3;refine .Z J<|.seq<|.az J (J)<|.ak<|.Z J<|.bp J J J ?_;exact⟨J,s3.pk []⟩
def AZ(av:Value)(l:List (ByteArray×Bool))(w:World)(ha:RdL w av aE l):
  CallsV prog 133 [(.agg #[av,(.slice none 0 0),(.slice none 0 0),(.slice none 0 0),(.slice none 0 0),(.slice none 0 0),(.slice none 0 0)])] w λ r w'=>r= .tuple #[.int .i64 0,.int .i64 0]/\Sat w [] w':=by
 refine bQ func133 J λ hs0=>.h<|.bx 0 hs0 J λ b1 _ s1 _ _=>.Z J<|.h<|.ld 1 s1 0 J<|.e J (.iw (l:=([]:List Nat)) (E:=ae .u8) underlying22 J (RdL.nil _ _))<|.Z J<|.seq<|.h<|.ld 2 s1 0 J<|.e J (.iw (l:=([]:List Nat)) (E:=ae .u8) underlying60 J (RdL.nil _ _))<|.Z J<|.az J (J)<|.skip<|.seq<|.Z J<|.az J (J)<|.skip<|.seq<|.h<|.ld 1 s1 0 J<|.e J (.iw (l:=([]:List Nat)) (E:=ae .u8) underlying22 J (RdL.nil _ _))<|.Z J<|.block<|.lq [1,4,36,37,38] J (α:=Unit) (λ _=>[]) (λ _ w'=>Sat w s1.L w') (λ _=>0) () s1 ?_;rintro _ w2 s2;refine .Z J<|.seq<|.az J (J)<|.ak<|.Z J<|.bp J J J ?_;exact⟨J,s2.pk []⟩
def sZ(av:Value)(l:List (ByteArray×Bool))(w:World)(ha:RdL w av aE l)(hn:l.length<=1000000):
  CallsV prog 93 [(.agg #[av,(.slice none 0 0),(.slice none 0 0),(.slice none 0 0),(.slice none 0 0),(.slice none 0 0),(.slice none 0 0)])] w λ r w'=>∃ i k e:Int,r= .tuple #[.int .i64 i,.int .i64 k,.int .i64 e]/\(e=0↔atsOk l)/\Sat w [] w':=by
 refine bQ func93 J λ hs0=>.h<|.bx 0 hs0 J λ b1 _ s1 _ _=>.Z J<|.seq<|.h<|.ld 1 s1 0 J<|.c 0 (AW _ (l) _ (ha.ext s1.ext) hn) J λ r1 _ h1=>?_;obtain⟨ri1,re1,rfl,hre1,p1⟩:=h1;have s2:=s1.au p1;refine .Z J<|.h<|.a 1 J (.neq J J)<|.nil<|.a8 J (λ c1=>?_) λ c1=>?_
 ·refine .Z J<|.ret ?_;show aG _ _ _ _ _ _;refine kq J J J J ?_;exact⟨_,_,_,J,hre1,s2.pk []⟩
 refine .skip<|.seq<|.h<|.lo 0 s2 0 J<|.cq 0 s2 (xB _ l _ (ha.ext s2.ext)) J λ _ s4=>.Z J<|.Z J<|.az J (J)<|.skip<|.seq<|.h<|.lo 0 s4 0 J<|.cp 0 s4 (AX _ l _ (ha.ext s4.ext)) J λ _ s5=>.Z J<|.Z J<|.az J (J)<|.skip<|.seq<|.h<|.lo 0 s5 0 J<|.cp 0 s5 (uH _ l _ (ha.ext s5.ext)) J λ _ s6=>.Z J<|.Z J<|.az J (J)<|.skip<|.seq<|.h<|.ld 1 s6 0 J<|.lo 0 s6 0 J<|.cq 0 s6 (AY _ l _ (ha.ext s6.ext)) J λ _ s7=>.Z J<|.seq<|.trim [0,1,2,3,4,5,6,7,8,9,10,11,12,13,14] J<|.U J<|.az J (J)<|.skip<|.seq<|.h<|.lo 0 s7 0 J<|.cp 0 s7 (AZ _ l _ (ha.ext s7.ext)) J λ _ s8=>.Z J<|.Z J<|.az J (J)<|.skip<|.Z J<|.ret ?_;show aG _ _ _ _ _ _;refine kq J J J J ?_;exact⟨_,_,0,J,⟨λ _=>hre1.1 (Po.1 c1),λ _=>J⟩,s8.pk []⟩
def xC(v:Value)(l:List (ByteArray×Bool))(w:World)(hv:RdL w v aE l)(hn:l.length<=1000000):
  CallsV prog 53 [v] w λ r w'=>r= .bool (atsB l)/\Sat w [] w':=by
 refine bQ func53 J λ hs0=>.Z J<|.h<|.a 1 J (.build wS J ⟨(hv.ext hs0.ext).a7,trivial⟩ J)<|.c 0 (sZ _ (l) _ (hv.ext hs0.ext) hn) J λ r1 _ h1=>?_;obtain⟨ri1,rk1,re1,rfl,hre1,p1⟩:=h1;have s1:=hs0.au p1;refine .Z J<|.h<|.a 1 J (.eql J J)<|.Z J<|.aC J J ?_;exact⟨If Value.bool (by unfold atsB;exact PN.2 hre1),s1.pk []⟩
def CO(av pv rv:Value)(al:List (ByteArray×Bool))(nx jr:Int)(pl:List Pc)(w:World)(ha:RdL w av aE al)(hna:al.length<=200000)(hp:RdL w pv bM pl)(hnp:pl.length<=200000)(hrow:∀ p∈pl,RdL w p.sv.val ah p.ns)(hdl:∀ p∈pl,p.ns.length<=9223372036854775807)(hrv:rv.oneCell'=true):
  CallsV prog 24 [(.agg #[av,(.int .i64 (nx)),(.int .i64 (jr)),pv,rv])] w λ r w'=>r= .bool (stB al nx jr pl)/\Sat w [] w':=by
 refine bQ func24 J λ hs0=>.h<|.bx 0 hs0 J λ b1 _ s1 _ _=>.Z J<|.seq<|.seq<|.md [0,1,2] J (λ K L' w'=>Weak ([(35,(.bool (decide ((((((!(atsB al))=true)\/((1000000000:Int)<(nx:Int)))\/((jr:Int)<(1:Int)))\/((nx:Int)<=(jr:Int)))\/(16<pl.length)))))]++K) L'/\Sat w s1.L w') ?_ ?_
 ·refine .region<|.ld 1 s1 0 J<|.cp 0 s1 (xC _ (al) _ (ha.ext s1.ext) (by omega)) J λ _ s2=>.e J (.cO J)<|.z 1 J ?_;by_cases g1:(!(atsB al))=true
  ·refine .Gt 13 J (g1)<|.Z J ?_;exact⟨⟨If some (If Value.bool (by simp[g1])),J,J,J,trivial⟩,s2⟩
  refine .Gf 13 J (by simpa using g1)<|.ld 1 s2 0 J<|.a 0 J (.gtr J J)<|.z 2 J<|.B 18 J (λ g2=>?_) λ g2=>?_
  ·refine .Z J ?_;exact⟨⟨If some (If Value.bool (by simp[g1,g2])),J,J,J,trivial⟩,s2⟩
  refine .ld 1 s2 0 J<|.a 0 J (.lss J J)<|.z 2 J<|.B 23 J (λ g3=>?_) λ g3=>?_
  ·refine .Z J ?_;exact⟨⟨If some (If Value.bool (by simp[g1,g2,g3])),J,J,J,trivial⟩,s2⟩
  refine .ld 1 s2 0 J<|.ld 1 s2 0 J<|.a 0 J (.geq J J)<|.z 2 J<|.B 30 J (λ g4=>?_) λ g4=>?_
  ·refine .Z J ?_;exact⟨⟨If some (If Value.bool (by simp[g1,g2,g3,g4])),J,J,J,trivial⟩,s2⟩
  refine .ld 1 s2 0 J<|.ln 0 (hp.ext s2.ext) J<|.Z J ?_;exact⟨⟨If some (If Value.bool (by simp[g1,g2,g3,g4])),J,J,J,trivial⟩,s2⟩
 rintro L' w3 ⟨hw1,s3⟩;refine .weaken _ hw1<|.a8 J (λ c1=>?_) λ c1=>?_
 ·refine .Z J<|.aC J J ?_;have hno:stB al nx jr pl=false:=jd.2 λ h9=>by
   obtain⟨h1,h2,h3,h4,h5,_⟩:=h9;have h8:=c1;rw[lQ.2 h1]at h8;simp only[RR,Pm,false_or]at h8;omega
  exact⟨by rw[hno],s3.pk []⟩
 refine .skip<|.seq<|.seq ?_;have hok1:atsOk al/\nx<=1000000000/\1<=jr/\jr<nx/\pl.length<=16:=by have h9:=c1;simp only[not_or]at h9;exact⟨lQ.1 (by simpa using h9.1.1.1.1),by omega,by omega,by omega,by omega⟩
 refine .region<|.ld 1 s3 0 J<|.ln 0 (hp.ext s3.ext) J<|.Z J<|.block<|.lq [1,37,38] J (α:=Nat) (λ k=>[(39,(.int .i64 k))]) (λ k w'=>Sat w s3.L w'/\(k<=pl.length)/\(∀ i,i<k->xI nx jr pl i)) (λ k=>pl.length-k) 0 ⟨s3,IN _,λ i hi=>absurd hi (P9 i)⟩ ?_;rintro k w4 ⟨s5,hk,hall⟩;refine .Z J<|.seq<|.a8 J (λ c2=>?_) λ c2=>?_
 ·refine .skip<|.seq<|.block<|.seq ?_;obtain⟨x,hx⟩:∃ x,(pl)[k]? =some x:=⟨_,py c2⟩;have hxd:=hdl x (a6 hx);refine .region<|.ix 1 (hp.ext s5.ext) J<|.lg 0 (hp.ext s5.ext) hx J<|.al 0 s5 J λ b2 _ s6 _ _=>.sa 1 s6 1 J ((bM).one _) λ _ s7 _=>?_;have s7:=s7.nn;refine .nil<|.seq<|.seq<|.cu 66 (((((x.f:Int)<(1:Int))\/((nx:Int)<=(x.f:Int)))\/((x.f:Int)=(jr:Int)))\/(64<x.ns.length)) ?_ ?_
  ·refine .ld 1 s7 1 J<|.e J (.lss J J)<|.z 1 J<|.B 47 J (λ g5=>?_) λ g5=>?_
   ·refine .M J (by simp[g5])
   refine .ld 1 s7 1 J<|.ld 1 s7 0 J<|.a 0 J (.geq J J)<|.z 2 J<|.B 54 J (λ g6=>?_) λ g6=>?_
   ·refine .M J (by simp[g5,g6])
   refine .ld 1 s7 1 J<|.ld 1 s7 0 J<|.a 0 J (.eql J J)<|.z 2 J<|.B 61 J (λ g7=>?_) λ g7=>?_
   ·refine .M J (by simp[g5,g6,g7])
   refine .ld 1 s7 1 J<|.ln 0 ((hrow x (a6 hx)).ext s7.ext) J<|.M J (by simp[g5,g6,g7])
  refine .a8 J (λ c3=>?_) λ c3=>?_
  ·refine .Z J<|.aC J J ?_;have hno:stB al nx jr pl=false:=jd.2 λ h9=>by
    obtain⟨h1,h2,h3,h4⟩:=h9.2.2.2.2.2 k x hx;rcases c3 with((h5|h5)|h5)|h5
    ·omega
    ·omega
    ·exact h3 (by rw[h5];exact Pu ..)
    have:=h4.2;omega
   exact⟨by rw[hno],s7.pk []⟩
  refine .skip<|.seq<|.seq ?_;have h6ok:=c3;refine .region<|.ld 1 s7 0 J<|.a 1 J (.aV (E:=bM) (a:=0) (c:=k) yj J (hp.ext s7.ext) J ⟨_,J⟩ (IN _) (by omega))<|.ln 0 (((hp.ext s7.ext)).sub (a:=0) (b:=k) (IN _) (by omega)) J<|.Z J<|.block<|.lq [1,3,4,37,38,39,70,71] J (α:=Nat) (λ j=>[(72,(.int .i64 j))]) (λ j w'=>Sat w s7.L w'/\(∀ i,i<j->∀ q,(pl.take k)[i]? =some q->q.f≠x.f)) (λ j=>(((pl).take k).drop 0).length-j) 0 ⟨s7,λ i hi=>absurd hi (P9 i)⟩ ?_;rintro j w7 ⟨s9,hin⟩;refine .Z J<|.seq<|.a8 J (λ c4=>?_) λ c4=>?_
  ·refine .skip<|.seq<|.block<|.seq ?_;obtain⟨y,hy⟩:∃ y,(((pl).take k).drop 0)[j]? =some y:=⟨_,py c4⟩;have hjl:j<k:=by have h9:=c4;rw[OJ,M2]at h9;omega
   have hyl:(pl.take k)[j]? =some y:=by have h9:=hy;rw[PK]at h9;exact h9
   have hym:y∈pl:=OS (a6 hyl);refine .region<|.ix 0 (((hp.ext s9.ext)).sub (a:=0) (b:=k) (IN _) (by omega)) J<|.lg 0 (((hp.ext s9.ext)).sub (a:=0) (b:=k) (IN _) (by omega)) hy J<|.al 0 s9 J λ b3 _ s10 _ _=>.sa 0 s10 2 J ((bM).one _) λ _ s11 _=>.nil<|.h<|.ld 1 s11 2 J<|.ld 1 s11 1 J<|.e J (.eql J J)<|.nil<|.a8 J (λ c5=>?_) λ c5=>?_
   ·refine .Z J<|.aC J J ?_;have hno:stB al nx jr pl=false:=jd.2 λ h9=>by
     obtain⟨h1,h2,h3,h4⟩:=h9.2.2.2.2.2 k x hx;exact h3 (Pe _ (by rw[<-c5];exact Pj (a6 hyl)))
    exact⟨by rw[hno],s11.pk []⟩
   refine .skip<|.U J ?_;exact ba (j+1) ⟨s11.pk [0,1],λ i hi q hq=>by
   rcases OI i j with h|h
   ·exact hin i h q hq
   ·have e:i=j:=by omega
    subst e;rw[hyl]at hq;cases hq;exact c5⟩
  refine .ak<|.seq ?_;have hjn:=c4;refine .region<|.ld 1 s9 1 J<|.ln 0 ((hrow x (a6 hx)).ext s9.ext) J<|.Z J<|.block<|.lq [1,4,37,38,39,83,84] J (α:=Nat) (λ m=>[(85,(.int .i64 m))]) (λ m w'=>Sat w s9.L w'/\(m<=x.ns.length)/\(∀ i,i<m->∀ z,x.ns[i]? =some z->aU z=true/\(0<i->∀ y,x.ns[i-1]? =some y->SLt y z))) (λ m=>x.ns.length-m) 0 ⟨s9,IN _,λ i hi=>absurd hi (P9 i)⟩ ?_;rintro m w10 ⟨s14,hm,hdn⟩;refine .Z J<|.seq<|.a8 J (λ c6=>?_) λ c6=>?_
  ·refine .skip<|.seq<|.block<|.seq ?_;obtain⟨z,hz⟩:∃ z,x.ns[m]? =some z:=⟨_,py c6⟩;obtain⟨q,hq⟩:∃ q:ByteArray,0<m->x.ns[m-1]? =some q:=by rcases PB m with h|h;exact⟨ByteArray.empty,λ h9=>absurd h9 (by omega)⟩;exact⟨_,λ _=>py (show m-1<x.ns.length by omega)⟩
   refine .region<|.ix 1 ((hrow x (a6 hx)).ext s14.ext) J<|.le 0 ((hrow x (a6 hx)).ext s14.ext) hz J<|.Z J<|.seq<|.md [1,4,7,8,37,38,39,83,84,85] J (λ K L' w'=>Weak ([(106,(.bool (decide (((!(aU z))=true)\/((0<m)/\(¬ SLt q z))))))]++K) L'/\Sat w s14.L w') ?_ ?_
   ·refine .region<|.cp 1 s14 (cP z _) J λ _ s15=>.e J (.cO J)<|.z 1 J ?_;by_cases g8:(!(aU z))=true
    ·refine .Gt 93 J (g8)<|.Z J ?_;exact⟨⟨If some (If Value.bool (by simp[g8])),J,J,J,J,J,J,J,J,J,J,trivial⟩,s15⟩
    refine .Gf 93 J (by simpa using g8)<|.z 3 J<|.B 96 J (λ g9=>?_) λ g9=>?_
    ·refine .ld 1 s15 1 J<|.ix 2 ((hrow x (a6 hx)).ext s15.ext) J<|.le 0 ((hrow x (a6 hx)).ext s15.ext) (hq (by omega)) J<|.a 1 J (.qN J J)<|.Z J ?_;exact⟨⟨If some (If Value.bool (by simp[g8,g9])),J,J,J,J,J,J,J,J,J,J,trivial⟩,s15⟩
    refine .Z J ?_;exact⟨⟨If some (If Value.bool (by simp[g8,g9])),J,J,J,J,J,J,J,J,J,J,trivial⟩,s15⟩
   rintro L' w12 ⟨hw2,s16⟩;refine .weaken _ hw2<|.a8 J (λ c7=>?_) λ c7=>?_
   ·refine .Z J<|.aC J J ?_;have hno:stB al nx jr pl=false:=jd.2 λ h9=>by
     obtain⟨h1,h2,h3,h4⟩:=h9.2.2.2.2.2 k x hx;obtain⟨h6,h7⟩:=h4.1 m z hz;rcases c7 with h5|h5
     ·rw[h6]at h5;cases h5
     exact h5.2 (h7 (by omega) q (hq (by omega)))
    exact⟨by rw[hno],s16.pk []⟩
   refine .skip<|.U J ?_;exact ba (m+1) ⟨s16,by omega,λ i hi t ht=>by
   rcases OI i m with h|h
   ·exact hdn i h t ht
   ·have e:i=m:=by omega
    subst e;rw[hz]at ht;cases ht;refine⟨by cases h8:aU z<;>simp_all,λ h0 u hu=>?_⟩;rw[hq h0]at hu;cases hu;exact Px λ h7=>c7 (.inr ⟨by omega,h7⟩)⟩
  refine .ak ?_;have hmn:=c6;refine .U J ?_;exact ba (k+1) ⟨s14.pk [0],by omega,λ i hi z hz=>by
   rcases OI i k with h|h
   ·exact hall i h z hz
   ·have e:i=k:=by omega
    subst e;rw[hx]at hz;cases hz;have h7:=h6ok;simp only[not_or]at h7;refine⟨by omega,by omega,λ hm=>?_,pr hdn (by omega),by omega⟩;rcases LD.1 hm with h8|h8
    ·exact h7.1.2 h8
    ·obtain⟨q,hq,hqe⟩:=Ps.1 h8;obtain⟨t,ht⟩:=OV hq;have h5:=(sp.1 ht).1;have h4:=hjn;rw[M2]at h5;rw[OJ,M2]at h4;exact hin t (by omega) q ht hqe⟩
 refine .ak<|.Z J<|.aC J J ?_;have hyes:stB al nx jr pl=true:=dE.2 ⟨hok1.1,hok1.2.1,hok1.2.2.1,hok1.2.2.2.1,hok1.2.2.2.2,λ i z hz=>hall i (by have:=(sp.1 hz).1;omega) z hz⟩;exact⟨by rw[hyes],s5.pk []⟩
def CP(v u:Value)(l:List (ByteArray×Bool))(w:World)(hv:RdL w v aE l)(hu:RdL w u aE l)(hn:l.length<=1000000):
  CallsV prog 31 [v,u] w λ r w'=>r= .bool true/\Sat w [] w':=by
 refine bQ func31 J λ hs0=>.Z J<|.seq<|.h<|.ln 1 (hv.ext hs0.ext) J<|.ln 1 (hu.ext hs0.ext) J<|.Z J<|.az J (KG (by simp))<|.skip<|.seq<|.h<|.ln 1 (hv.ext hs0.ext) J<|.Z J<|.block<|.lq [0,1,12] J (α:=Nat) (λ k=>[(13,(.int .i64 k))]) (λ k w'=>Sat w [] w'/\(k<=l.length)) (λ k=>l.length-k) 0 ⟨hs0,IN _⟩ ?_;rintro k w1 ⟨s1,hk⟩;refine .Z J<|.seq<|.a8 J (λ c1=>?_) λ c1=>?_
 ·refine .skip<|.seq<|.block<|.Z J<|.seq ?_;obtain⟨x,hx⟩:∃ x,(l)[k]? =some x:=⟨_,py c1⟩;refine .dk [] s1 J (Kw.pl [0,1,2,3,4,5,6,7,8] .fin) λ s2 S1=>.ix 2 S1 (hv.ext ·.ext) J<|.lg 0 S1 (hv.ext ·.ext) hx J<|.ix 2 S1 (hu.ext ·.ext) J<|.lg 0 S1 (hu.ext ·.ext) hx J<|.e J (λ _ s=>.N3 (a:=x) Jq J J) S1<|.fin<|.az J (J)<|.skip<|.U J ?_;exact ba (k+1) ⟨s2,by omega⟩
 refine .ak<|.Z J<|.aC J J ?_;exact⟨J,s1⟩
def CQ(v u:Value)(l:List ByteArray)(w:World)(hv:RdL w v ah l)(hu:RdL w u ah l)(hn:l.length<=9223372036854775807):
  CallsV prog 58 [v,u] w λ r w'=>r= .bool true/\Sat w [] w':=by
 refine bQ func58 J λ hs0=>.Z J<|.seq<|.h<|.ln 1 (hv.ext hs0.ext) J<|.ln 1 (hu.ext hs0.ext) J<|.Z J<|.az J (KG (by simp))<|.skip<|.seq<|.h<|.ln 1 (hv.ext hs0.ext) J<|.Z J<|.block<|.lq [0,1,12] J (α:=Nat) (λ k=>[(13,(.int .i64 k))]) (λ k w'=>Sat w [] w'/\(k<=l.length)) (λ k=>l.length-k) 0 ⟨hs0,IN _⟩ ?_;rintro k w1 ⟨s1,hk⟩;refine .Z J<|.seq<|.a8 J (λ c1=>?_) λ c1=>?_
 ·refine .skip<|.seq<|.block<|.Z J<|.seq ?_;obtain⟨x,hx⟩:∃ x,(l)[k]? =some x:=⟨_,py c1⟩;refine .dk [] s1 J (Kw.pl [0,1,2,3,4,5,6,7,8] .fin) λ s2 S1=>.ix 2 S1 (hv.ext ·.ext) J<|.le 0 S1 (hv.ext ·.ext) hx J<|.ix 2 S1 (hu.ext ·.ext) J<|.le 0 S1 (hu.ext ·.ext) hx J<|.e J (λ _ s=>.bO J J) S1<|.fin<|.az J (KG (by simp))<|.skip<|.U J ?_;exact ba (k+1) ⟨s2,by omega⟩
 refine .ak<|.Z J<|.aC J J ?_;exact⟨J,s1⟩
abbrev CR:=bM
def CS(v u:Value)(pl ql:List Pc)(w:World)(hp:RdL w v bM pl)(hq:RdL w u CR ql)(he:pl.map gI=ql.map gI)(hrow:∀ p∈pl,RdL w p.sv.val ah p.ns)(hrowq:∀ p∈ql,RdL w p.sv.val ah p.ns)(hdl:∀ p∈pl,p.ns.length<=9223372036854775807)(hn:pl.length<=1000000):
  CallsV prog 32 [v,u] w λ r w'=>r= .bool true/\Sat w [] w':=by
 have hs0:=Sat.start w;have hlen:pl.length=ql.length:=by have h9:=If List.length he;simpa using h9
 refine ay func32 J J ?_;refine .Z J<|.seq<|.h<|.ln 1 (hp.ext hs0.ext) J<|.ln 1 (hq.ext hs0.ext) J<|.Z J<|.az J (KG (λ h9=>h9 hlen))<|.skip<|.seq<|.h<|.ln 1 (hp.ext hs0.ext) J<|.Z J<|.block<|.lq [0,1,12] J (α:=Nat) (λ k=>[(13,(.int .i64 k))]) (λ k w'=>Sat w [] w'/\(k<=pl.length)) (λ k=>pl.length-k) 0 ⟨hs0,IN _⟩ ?_;rintro k w1 ⟨s1,hk⟩;refine .Z J<|.seq<|.a8 J (λ c1=>?_) λ c1=>?_
 ·refine .skip<|.seq<|.block<|.Z J<|.seq ?_;obtain⟨x,hx⟩:∃ x,(pl)[k]? =some x:=⟨_,py c1⟩;obtain⟨y,hy⟩:∃ y,ql[k]? =some y:=⟨_,py (by omega)⟩;have hxy:x.f=y.f/\x.ns=y.ns:=by have h9:=If (λ z=>z[k]?) he;simp only[OT,hx,hy,PY,PJ]at h9;exact⟨If Prod.fst h9,If Prod.snd h9⟩
  refine .dk [] s1 J (Kw.pl [0,1,2,3,4,5,6,7,8,9,10,11,12,13,14,15,16,17,18,19,20,21,1022,23,24] .fin) λ s2 S1=>.ix 2 S1 (hp.ext ·.ext) J<|.fl 0 S1 (hp.ext ·.ext) J<|.lf 0 S1 (hp.ext ·.ext) hx J<|.ix 2 S1 (hq.ext ·.ext) J<|.fl 0 S1 (hq.ext ·.ext) J<|.lf 0 S1 (hq.ext ·.ext) hy J<|.e J (λ _ s=>.neq J J) S1<|.z 1 S1 J<|.Gf 27 J (KG (λ h9=>h9 hxy.1))<|.ix 2 S1 (hp.ext ·.ext) J<|.fl 0 S1 (hp.ext ·.ext) J<|.lf 0 S1 (hp.ext ·.ext) hx J<|.ix 2 S1 (hq.ext ·.ext) J<|.fl 0 S1 (hq.ext ·.ext) J<|.lf 0 S1 (hq.ext ·.ext) hy J<|.c 0 S1 (CQ _ _ x.ns _ ((hrow x (a6 hx)).ext s2.ext) (hxy.2▸((hrowq y (a6 hy)).ext s2.ext)) (hdl x (a6 hx))) J λ r1 _ h1=>?_;obtain⟨rfl,p1⟩:=h1;have s3:=s2.au p1;have S2:=s3.pk [];refine⟨S2,?_⟩;refine .Z S2 J<|.az J (J)<|.skip<|.U J ?_;exact ba (k+1) ⟨s3,by omega⟩
 refine .ak<|.Z J<|.aC J J ?_;exact⟨J,s1⟩
def B4(w:World):
  CallsV prog 33 [(.slice none 0 0),(.slice none 0 0)] w λ r w'=>r= .bool true/\Sat w [] w':=by
 refine bQ func33 J λ hs0=>.Z J<|.seq<|.h<|.a 1 J (.iw (l:=([]:List Nat)) (E:=ae .u8) underlying25 J (RdL.nil _ _))<|.a 1 J (.iw (l:=([]:List Nat)) (E:=ae .u8) underlying25 J (RdL.nil _ _))<|.Z J<|.az J (J)<|.skip<|.seq<|.h<|.a 1 J (.iw (l:=([]:List Nat)) (E:=ae .u8) underlying25 J (RdL.nil _ _))<|.Z J<|.block<|.lq [12,13] J (α:=Unit) (λ _=>[]) (λ _ w'=>Sat w [] w') (λ _=>0) () hs0 ?_;rintro _ w1 s1;refine .Z J<|.seq<|.az J (J)<|.ak<|.Z J<|.aC J J ?_;exact⟨J,s1⟩
def CT(av bv pv qv:Value)(al:List (ByteArray×Bool))(nx jr:Int)(pl ql:List Pc)(w:World)(ha:RdL w av aE al)(hb:RdL w bv aE al)(hna:al.length<=200000)(hp:RdL w pv bM pl)(hq:RdL w qv CR ql)(hnp:pl.length<=200000)(he:pl.map gI=ql.map gI)(hrow:∀ p∈pl,RdL w p.sv.val ah p.ns)(hrowq:∀ p∈ql,RdL w p.sv.val ah p.ns)(hdl:∀ p∈pl,p.ns.length<=9223372036854775807):
  CallsV prog 9 [(.agg #[av,(.int .i64 (nx)),(.int .i64 (jr)),pv,(.slice none 0 0)]),(.agg #[bv,(.int .i64 (nx)),(.int .i64 (jr)),qv,(.slice none 0 0)])] w λ r w'=>r= .bool true/\Sat w [] w':=by
 refine bQ func9 J λ hs0=>.h<|.bx 0 hs0 J λ b1 _ s1 _ _=>.bx 0 s1 J λ b2 _ s2 _ _=>.Z J<|.h<|.ld 1 s2 0 J<|.ld 1 s2 1 J<|.cq 0 s2 (CP _ _ al _ (ha.ext s2.ext) (hb.ext s2.ext) (by omega)) J λ _ s3=>.ld 2 s3 0 J<|.ld 1 s3 1 J<|.a 0 J (.eql J J)<|.z 2 J<|.Gt 17 J (OL J)<|.ld 1 s3 0 J<|.ld 1 s3 1 J<|.a 0 J (.eql J J)<|.z 2 J<|.Gt 24 J (OL J)<|.ld 1 s3 0 J<|.ld 1 s3 1 J<|.cp 0 s3 (CS _ _ pl ql _ (hp.ext s3.ext) (hq.ext s3.ext) he (λ p hp9=>(hrow p hp9).ext s3.ext) (λ p hp9=>(hrowq p hp9).ext s3.ext) hdl (by omega)) J λ _ s4=>.ld 3 s4 0 J<|.ld 1 s4 1 J<|.cp 0 s4 (B4 _) J λ _ s5=>.Z J<|.aC J J ?_;exact⟨J,s5.pk []⟩
def uI(av pv rv:Value)(al:List (ByteArray×Bool))(nx jr:Int)(pl:List Pc)(w:World)(ha:RdL w av aE al)(hna:al.length<=200000)(hp:RdL w pv bM pl)(hnp:pl.length<=200000)(hrow:∀ p∈pl,RdL w p.sv.val ah p.ns)(hdl:∀ p∈pl,p.ns.length<=9223372036854775807)(hrv:rv.oneCell'=true):
  CallsV prog 7 [(.agg #[av,(.int .i64 (nx)),(.int .i64 (jr)),pv,rv])] w λ r w'=>(stOk al nx jr pl->r= .tuple #[.string (qx al nx jr (pl.map gI)),.int .i64 ((0:Nat):Int)])/\(¬ stOk al nx jr pl->r= .tuple #[.string ByteArray.empty,.int .i64 ((1:Nat):Int)])/\Sat w [] w':=by
 refine bQ func7 J λ hs0=>.h<|.bx 0 hs0 J λ b1 _ s1 _ _=>.Z J<|.seq<|.h<|.lo 0 s1 0 J<|.cp 0 s1 (CO av pv rv al nx jr pl _ (ha.ext s1.ext) hna (hp.ext s1.ext) hnp (λ p h9=>(hrow p h9).ext s1.ext) hdl hrv) J λ _ s2=>.e J (.cO J)<|.nil<|.cond J (λ c1=>?_) (λ c1=>?_)
 ·refine .Z J<|.bp J J J ?_;have hno:stB al nx jr pl=false:=by simpa using c1
  exact⟨λ h9=>(by rw[dE.2 h9]at hno;cases hno),λ _=>J,s2.pk []⟩
 refine .skip<|.seq ?_;have hok:=dE.1 (by simpa using c1);have j4:=eK (n:=nx.toNat) (by have:=hok.2.1;omega);have hd2:=eK (n:=jr.toNat) (by have:=hok.2.1;have:=hok.2.2.2.1;omega);have hk1:=hok.2.1;have hk2:=hok.2.2.1;have hk3:=hok.2.2.2.1;refine .dk [0] s2 J (Kw.pl [0,1,5,6,1002,3,4,1007,8,9,10] .fin) λ s4 S1=>.ld 1 S1 0 J<|.ld 1 S1 0 J<|.c 0 S1 (ie nx _ (by omega) (by omega)) J λ r2 _ h2=>?_;obtain⟨rfl,p2⟩:=h2;have s5:=(s4.au p2).nn;have S2:=s5.pk [0];refine⟨S2,?_⟩;refine .e J (λ _ s=>.bN J J (by simp[OP,cc]<;>omega)) S2<|.e J (λ _ s=>.bN J J (by simp[OP,cc]<;>omega)) S2<|.c 0 S2 (ie jr _ (by omega) (by omega)) J λ r3 _ h3=>?_;obtain⟨rfl,p3⟩:=h3;have s6:=s5.au p3;have S3:=s6.pk [0];refine⟨S3,?_⟩;refine .e J (λ _ s=>.bN J J (by simp[OP,cc]<;>omega)) S3<|.e J (λ _ s=>.bN J J (by simp[OP,cc]<;>omega)) S3<|.Z S3 J<|.seq<|.h<|.ld 1 s6 0 J<|.ln 0 (ha.ext s6.ext) J<|.Z J<|.block<|.lq [1,25,26] J (α:=Nat×ByteArray) (λ(k,out)=>[(4,(.string out)),(27,(.int .i64 k))]) (λ(k,out) w'=>Sat w s6.L w'/\(k<=al.length)/\(out=bs (qR al nx jr k))) (λ(k,out)=>al.length-k) (0,(((((ByteArray.mk #[99,111,114,112,111,114,97,32,49,10,110,101,120,116,32])++(aZ (nx).toNat))++(ByteArray.mk #[10,106,111,117,114,110,97,108,32]))++(aZ (jr).toNat))++(ByteArray.mk #[10]))) ⟨s6,IN _,Hg⟩ ?_;rintro⟨k,out⟩ w5 ⟨s7,hk,ho⟩;refine .Z J<|.seq<|.a8 J (λ c2=>?_) λ c2=>?_
 ·refine .skip<|.seq<|.block<|.seq ?_;obtain⟨x,hx⟩:∃ x,(al)[k]? =some x:=⟨_,py c2⟩;have hsx:x.1.size<=32:=iN (hok.names x (a6 hx));have hzo:=If ByteArray.size ho;have hzl:=zz (k:=k) hok;rw[dS]at hzo;refine .region<|.ix 0 (ha.ext s7.ext) J<|.lg 0 (ha.ext s7.ext) hx J<|.al 0 s7 J λ b2 _ s8 _ _=>.sa 0 s8 1 J ((aE).one _) λ _ s9 _=>?_;have s9:=s9.nn;refine .nil<|.h<|.ld 2 s9 1 J<|.e J (.bN J J (by simp[OP,cc]<;>omega))<|.e J (.bN J J (by simp[OP,cc]<;>omega))<|.Z J<|.h<|.ld 1 s9 1 J<|.nil<|.cond J (λ c3=>?_) (λ c3=>?_)
  ·refine .region<|.a 1 J (.bN J J (by simp[OP,cc]<;>omega))<|.Z J<|.U J ?_;exact ba (k+1,((out++((ByteArray.mk #[97,116,116,114,105,98,117,116,101,32])++x.1))++(ByteArray.mk #[32,49,10]))) ⟨s9.pk [0],by omega,Ew ho hx c3 J⟩
  refine .region<|.a 1 J (.bN J J (by simp[OP,cc]<;>omega))<|.Z J<|.U J ?_;exact ba (k+1,((out++((ByteArray.mk #[97,116,116,114,105,98,117,116,101,32])++x.1))++(ByteArray.mk #[32,48,10]))) ⟨s9.pk [0],by omega,Ew ho hx c3 J⟩
 refine .ak<|.seq<|.h<|.ld 1 s7 0 J<|.ln 0 (hp.ext s7.ext) J<|.Z J<|.block<|.lq [1,44,45] J (α:=Nat×ByteArray) (λ(k,out)=>[(4,(.string out)),(46,(.int .i64 k))]) (λ(k,out) w'=>Sat w s7.L w'/\(k<=pl.length)/\(out=bs (qS al nx jr pl k))) (λ(k,out)=>pl.length-k) (0,out) ⟨s7,IN _,ho.trans (If bs (wb (by omega)))⟩ ?_;rintro⟨k,out⟩ w8 ⟨s12,hk,ho⟩;refine .Z J<|.seq<|.a8 J (λ c4=>?_) λ c4=>?_
 ·refine .skip<|.seq<|.block<|.seq ?_;obtain⟨x,hx⟩:∃ x,(pl)[k]? =some x:=⟨_,py c4⟩;obtain⟨hp1,hp2,hp3⟩:=hok.Jc x (a6 hx);have O8:=eK (n:=x.f.toNat) (by omega);have hzo:=If ByteArray.size ho;have hzl:=k6 (k:=k) hok;rw[dS]at hzo;have hxd:=hp3.2;refine .region<|.ix 0 (hp.ext s12.ext) J<|.lg 0 (hp.ext s12.ext) hx J<|.al 0 s12 J λ b3 _ s13 _ _=>.sa 0 s13 1 J ((bM).one _) λ _ s14 _=>?_;have s14:=s14.nn;refine .nil<|.h<|.ld 2 s14 1 J<|.cp 0 s14 (ie x.f _ (by omega) (by omega)) J λ _ s15=>.e J (.bN J J (by simp[OP,cc]<;>omega))<|.e J (.bN J J (by simp[OP,cc]<;>omega))<|.Z J<|.seq<|.h<|.ld 1 s15 1 J<|.ln 0 ((hrow x (a6 hx)).ext s15.ext) J<|.Z J<|.block<|.lq [1,44,45,46,57,58] J (α:=Nat×ByteArray) (λ(j,o2)=>[(4,(.string o2)),(59,(.int .i64 j))]) (λ(j,o2) w'=>Sat w s15.L w'/\(j<=x.ns.length)/\(o2=bs (qS al nx jr pl k++y8 x.f x.ns j))) (λ(j,o2)=>x.ns.length-j) (0,(out++((ByteArray.mk #[112,105,101,99,101,32])++(aZ (x.f).toNat)))) ⟨s15,IN _,Hh ho⟩ ?_;rintro⟨j,o2⟩ w12 ⟨s16,hj,ho2⟩;refine .Z J<|.seq<|.a8 J (λ c5=>?_) λ c5=>?_
  ·refine .skip<|.seq<|.block<|.seq ?_;obtain⟨y,hy⟩:∃ y,x.ns[j]? =some y:=⟨_,py c5⟩;have hsy:y.size<=32:=iN (hp3.names y (a6 hy));have hzo2:=If ByteArray.size ho2;have hzl2:=zB (k:=j) (show x.f<=1000000000 by omega) hp3;rw[dS,AT]at hzo2;refine .region<|.ix 0 ((hrow x (a6 hx)).ext s16.ext) J<|.le 0 ((hrow x (a6 hx)).ext s16.ext) hy J<|.Z J<|.region<|.a 2 J (.bN J J (by simp[OP,cc]<;>omega))<|.e J (.bN J J (by simp[OP,cc]<;>omega))<|.Z J<|.U J ?_;exact ba (j+1,(o2++((ByteArray.mk #[32])++y))) ⟨s16,by omega,Kc ho2 hy⟩
  refine .ak ?_;have hzo2:=If ByteArray.size ho2;have hzl2:=zB (k:=j) (show x.f<=1000000000 by omega) hp3;rw[dS,AT]at hzo2;refine .region<|.a 1 J (.bN J J (by simp[OP,cc]<;>omega))<|.Z J<|.U J ?_;exact ba (k+1,(o2++(ByteArray.mk #[10]))) ⟨s16.pk [0],by omega,Kd ho2 hx (by omega)⟩
 refine .ak<|.h<|.b 1 J (.gR underlying9 underlying43 underlying5 s12 J (by have h9:=If ByteArray.size ho;have h8:=k6 (k:=k) hok;rw[dS]at h9;omega) λ v1 _ s18=>?_);refine .c 0 (ia _ (aF out) _ (s18.gG 1 J) (fe _) (by rw[aj];have h9:=If ByteArray.size ho;have h8:=k6 (k:=k) hok;rw[dS]at h9;omega)) J λ r5 _ h5=>?_;have s19:=(s18.au h5).nn;refine .e J (.cS underlying43 underlying9 underlying5 J (s19.aa 2 J))<|.Z J<|.bp J J J ?_;exact⟨λ _=>by rw[ho,zw (by omega)]<;>rfl,λ h9=>absurd hok h9,s19.pk []⟩
