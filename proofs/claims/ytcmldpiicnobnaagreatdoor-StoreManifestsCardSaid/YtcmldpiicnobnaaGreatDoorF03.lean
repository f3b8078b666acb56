/-The walks of the functions of F03,printed by our own program (kwgen.py) out of our descriptions (base.py). -/
import Derived.Test.YtcmldpiicnobnaaGreatDoorM06
import Derived.Test.YtcmldpiicnobnaaGreatDoorM02s
import Derived.Test.YtcmldpiicnobnaaGreatDoorM39
import Derived.Test.YtcmldpiicnobnaaGreatDoorF39
set_option linter.all false
set_option maxHeartbeats 4000000
set_option maxRecDepth 100000
open Go.Proofs.YtcmldpiicnobnaaGreatDoor
open List
open Go.Proofs.Tryz
namespace Go.Proofs.YtcmldpiicnobnaaGreatDoor
open Go.RowKit Go.Kw
def FO(v n:Nat)(w:World)(hv:v<4294967296)(hn:n<=1000):
  CallsV prog 92 [(.int .u32 v),(.int .i64 n)] w λ r w'=>r= .int .u32 (cG v n:Nat)/\Sat w [] w':=by
 refine bQ func92 J λ hs0=>.Z J<|.seq<|.Z J<|.block<|.lq [5] J (α:=Nat×Nat) (λ(k,u)=>[(0,(.int .u32 u)),(6,(.int .i64 k))]) (λ(k,u) w'=>Sat w [] w'/\(k<=n)/\(u=cG v k)/\(u<4294967296)) (λ(k,u)=>n-k) (0,v) ⟨hs0,IN _,J,hv⟩ ?_;rintro⟨k,u⟩ w1 ⟨s1,hk,hu,hub⟩;refine .Z J<|.seq<|.a8 J (λ c1=>?_) λ c1=>?_
 ·refine .skip<|.seq<|.block<|.Z J<|.a8 J (λ c2=>?_) λ c2=>?_
  ·refine .region<|.a 2 J (.C4 (b:=2197175160) J J J (by(try simp only[IntKind.bits]);omega) (by(try simp only[IntKind.bits]);omega))<|.Z J<|.U J ?_;exact ba (k+1,((u/2^1)^^^2197175160)) ⟨s1,by omega,by rw[cG,<-hu];simp[xe,c2],by have:=qg hub;simpa[xe,c2]using this⟩
  refine .U J<|.U J ?_;exact ba (k+1,(u/2^1)) ⟨s1,by omega,by rw[cG,<-hu];simp[xe,c2],by have:=qg hub;simpa[xe,c2]using this⟩
 refine .ak<|.Z J<|.aC J J ?_;rw[show k=n by omega]at hu;exact⟨by rw[hu],s1⟩
def oR(v:Value)(l:List Nat)(w:World)(hv:RdL w v (ae .u8) l)(hb:∀ x∈l,x<256)(hn:l.length<=1000000000):
  CallsV prog 52 [v] w λ r w'=>r= .int .u32 (ep l:Nat)/\Sat w [] w':=by
 refine bQ func52 J λ hs0=>.Z J<|.h<|.al 0 hs0 J λ b1 w1 s1 _ _=>.nil<|.seq<|.Z J<|.block ?_;have s2:Sat w [aw b1 156 ((ae .u32).all (nB 0))] w1:=s1;refine .lq [0,3] J (α:=Nat) (λ k=>[(8,(.int .i64 k))]) (λ k w'=>Sat w [aw b1 156 ((ae .u32).all (nB k))] w'/\(k<=16)) (λ k=>16-k) 0 ⟨s2,IN _⟩ ?_;rintro k w2 ⟨s3,hk⟩;refine .Z J<|.seq<|.a8 J (λ c1=>?_) λ c1=>?_
 ·refine .skip<|.seq<|.block<|.Z J<|.region<|.a 2 J (.eD (by rw[underlying3]<;>rfl) underlying104 J J)<|.cp 0 s3 (FO ((k%2^32)) (4) _ (by omega) (by omega)) J λ _ s4=>.e J (.yn ym J J (by omega))<|.f J (.setArr (E:=ae .u32) (a:=(cG ((k%2^32)) (4))) 0 KU s4 J J J J (by rw[vJ];all_goals omega) λ w4 s5 _=>?_);have s5:=s5.nn;refine .nil<|.U J ?_;have s6:Sat w [aw b1 156 ((ae .u32).all (nB (k+1)))] w4:=by
   have hq:(nB k).set k (cG ((k%2^32)) (4))=nB (k+1):=by rw[P6 (show k<2^32 by omega)];exact E0 (by omega)
   rw[<-hq];exact s5
  exact ba (k+1) ⟨s6,by omega⟩
 refine .ak<|.seq ?_;have s7:Sat w [aw b1 156 ((ae .u32).all (nA))] w2:=by
  have hq:nB k=nA:=by rw[show k=16 by omega];exact E1
  rw[<-hq];exact s3
 refine .U J<|.seq<|.h<|.ln 1 (hv.ext s7.ext) J<|.Z J<|.block<|.lq [3,17,18] J (α:=Nat×Nat) (λ(k,u)=>[(5,(.int .u32 u)),(19,(.int .i64 k))]) (λ(k,u) w'=>Sat w s7.L w'/\(k<=l.length)/\(u=mu (l.take k))/\(u<4294967296)) (λ(k,u)=>l.length-k) (0,4294967295) ⟨s7,IN _,J,by omega⟩ ?_;rintro⟨k,u⟩ w5 ⟨s8,hk,hu,hub⟩;refine .Z J<|.seq<|.a8 J (λ c2=>?_) λ c2=>?_
 ·refine .skip<|.seq<|.block<|.seq ?_;obtain⟨x,hx⟩:∃ x,(l)[k]? =some x:=⟨_,py c2⟩;refine .region<|.ix 0 (hv.ext s8.ext) J<|.le 0 (hv.ext s8.ext) hx J<|.Z J<|.seq ?_;have hxb:=hb x (a6 hx);have haa:u^^^x<4294967296:=ca hub (by omega);refine .region<|.a 3 J (.C4 J J J (by(try simp only[IntKind.bits]);omega) (by(try simp only[IntKind.bits]);omega))<|.Z J<|.seq ?_;have htg1:=qi (show(u^^^x)%2^4<16 by omega);have htl1:=tB (show(u^^^x)%2^4<16 by omega);refine .region<|.a 4 J (.yn ym J J (by omega))<|.e J (.load Ag J (s8.Ak (E:=ae .u32) 0 J htg1 (by decide) J))<|.e J (.C4 J J J (by(try simp only[IntKind.bits]);omega) (by(try simp only[IntKind.bits]);omega))<|.Z J ?_;have hba:=fg haa;unfold oz at hba;have htg2:=qi (show(((u^^^x)/2^4)^^^(mr ((u^^^x)%2^4)))%2^4<16 by omega);have htl2:=tB (show(((u^^^x)/2^4)^^^(mr ((u^^^x)%2^4)))%2^4<16 by omega);have hbb:=fg hba;unfold oz at hbb;refine .region<|.a 4 J (.yn ym J J (by omega))<|.e J (.load Ag J (s8.Ak (E:=ae .u32) 0 J htg2 (by decide) J))<|.e J (.C4 J J J (by(try simp only[IntKind.bits]);omega) (by(try simp only[IntKind.bits]);omega))<|.Z J<|.U J ?_;exact ba (k+1,(((((u^^^x)/2^4)^^^(mr ((u^^^x)%2^4)))/2^4)^^^(mr ((((u^^^x)/2^4)^^^(mr ((u^^^x)%2^4)))%2^4)))) ⟨s8,by omega,by rw[aB hx,nz,<-hu]<;>rfl,hbb⟩
 refine .ak<|.h<|.a 1 J (.J9 J (by omega))<|.Z J<|.aC J J ?_;rw[show k=l.length by omega,P7]at hu;exact⟨by rw[hu]<;>rfl,s8.pk []⟩
def dU(v:Nat)(w:World)(hv:v<4294967296):
  CallsV prog 51 [(.int .u32 v)] w λ r w'=>r= .agg ((ae .u8).all (gZ v)).toArray/\Sat w [] w':=by
 refine bQ func51 J λ hs0=>.h<|.al 0 hs0 J λ b1 _ s1 _ _=>.nil<|.h<|.a 1 J (.eD (by rw[underlying104]<;>rfl) underlying5 J J)<|.a 2 J (.eD (by rw[underlying104]<;>rfl) underlying5 J J)<|.a 2 J (.eD (by rw[underlying104]<;>rfl) underlying5 J J)<|.a 2 J (.eD (by rw[underlying104]<;>rfl) underlying5 J J)<|.e J (.FA KT J ⟨J,J,J,J,trivial⟩ J)<|.sa 0 s1 0 (vs:=[(.int .u8 ((v%2^8):Nat)),(.int .u8 (((v/2^8)%2^8):Nat)),(.int .u8 (((v/2^16)%2^8):Nat)),(.int .u8 (((v/2^24)%2^8):Nat))]) J (λ v h=>by simp only[LD,KY,OE]at h;rcases h with rfl|rfl|rfl|rfl;exact J;exact J;exact J;exact J) λ _ s2 _=>.nil<|.ret ?_;show aG _ _ _ _ _ _;refine nh (vs:=[(.int .u8 ((v%2^8):Nat)),(.int .u8 (((v/2^8)%2^8):Nat)),(.int .u8 (((v/2^16)%2^8):Nat)),(.int .u8 (((v/2^24)%2^8):Nat))]) J J lu (λ j u hu=>s2.cell (i:=0) J hu) ?_;exact⟨J,s2.pk []⟩
def FP(v:Value)(l:List Nat)(w:World)(hv:RdL w v (ae .u8) l)(hb:∀ x∈l,x<256)(hn:l.length<=1000000000):
  CallsV prog 22 [v] w λ r w'=>Sat w [cL r 5 (ae .u8) (aq l)] w':=by
 refine bQ func22 J λ hs0=>.Z J<|.h<|.cp 1 hs0 (oR _ (l) _ (hv.ext hs0.ext) (hb) (hn)) J λ _ s1=>.cp 0 s1 (dU ((ep (l))) _ (fQ hb)) J λ _ s2=>.al 0 s2 J λ b1 _ s3 _ _=>?_;have s3:=s3.nn;refine .sa 0 s3 0 (vs:=(ae .u8).all (gZ (ep (l)))) J ((ae .u8).all_oneCell _) λ _ s4 _=>.nil<|.seq<|.dk [0] s4 J (pl [0,1,2,3,4,5,6,1007,8] .fin) λ s5 S1=>.ln 2 S1 (hv.ext ·.ext) J<|.ln 1 S1 (hv.ext ·.ext) J<|.e J (λ _ s=>.C5 (E:=ae .u8) cN J (hv.ext s.ext) J J) S1<|.e J (λ _ s=>.FC KS (by decide) J) S1<|.f J (.yu cN s5 J J ((hv.ext s5.ext)).full.1 (((hv.ext s5.ext)).full.2) underlying43 (s5.MF (E:=ae .u8) (l:=gZ (ep (l))) 0 J (m:=4) (by first|rfl|simp)) (by simp[gZ]) (by simp[gZ];omega) (by simp[gZ];omega) λ v1 _ s6 _=>?_);have S2:=s6.pk [0];refine⟨S2,?_⟩;refine .Z S2 J<|.aC J J ?_;exact s6.pk [1]
def cK(v:Nat)(w:World)(hv:v<2^64):
  CallsV prog 185 [(.int .u64 v)] w λ r w'=>Sat w [cL r 5 (ae .u8) (uv v)] w':=by
 refine bQ func185 J λ hs0=>.Z J<|.Z J<|.seq<|.block ?_;have s1:=hs0.ao 5 (ae .u8);refine .loop (α:=Nat×Value×List Nat) (λ(v2,out,acc)=>[(0,(.int .u64 v2)),(3,out)]) (λ(v2,out,acc) w'=>Sat w [cL out 5 (ae .u8) (acc)] w'/\(v2<2^64)/\(acc++uv v2=uv v)) (λ(v2,out,acc)=>v2) (v,(.slice none 0 0),[]) (wk J) ⟨s1,hv,J⟩ ?_;rintro⟨v2,out,acc⟩ w1 ⟨s2,hv2,hacc⟩;have hl2:=If List.length hacc;simp only[AT]at hl2;have hu1:=aN v;have hu2:=DJ v2;refine .seq<|.Z J<|.a8 J (λ c1=>?_) λ c1=>?_
 ·refine .skip<|.block<|.h<|.a 2 J (.rem (b:=128) J J (by omega))<|.e J (.eD (by rw[underlying190]<;>rfl) underlying5 J J)<|.e J (.L5 (b:=128) J J J)<|.f J (.cE (ae .u8) ((((v2%128)%2^8)+128)%2^8) cN J s2 J λ v1 _ s3 _=>?_);refine .ap 0 s3 0 (s3.aa 1 J) J λ v_2 _ s4 _=>?_;refine .Z J<|.region<|.a 1 J (.MK (b:=128) J J J (by omega) (by(try simp only[IntKind.bits]);omega))<|.Z J ?_;exact ba ((v2/128),v_2,acc++[((((v2%128)%2^8)+128)%2^8)]) ⟨s4.pk [0],by omega,by rw[<-hacc,uW hv2 c1,show((((v2%128)%2^8)+128)%2^8)=v2%128+128 by omega];simp⟩
 refine .ak<|.h<|.a 2 J (.eD (by rw[underlying190]<;>rfl) underlying5 J J)<|.f J (.cE (ae .u8) (v2%2^8) cN J s2 J λ v3 _ s5 _=>?_);refine .ap 0 s5 0 (s5.aa 1 J) J λ v_4 _ s6 _=>?_;refine .Z J<|.aC J J ?_;have hq:acc++[(v2%2^8)]=uv v:=by rw[<-hacc,jM (by omega)]<;>(first|rfl|(congr 1;simp;omega))
 rw[<-hq];exact s6.pick [0] J
def lz(x m:Nat)(w:World)(hx:x<2^64)(hm:m<=64):
  CallsV prog 208 [(.int .u64 x),(.int .i64 m)] w λ r w'=>Sat w [cL r 4 iV (bZ x m)] w':=by
 refine bQ func208 J λ hs0=>.Z J<|.Z J<|.seq<|.h<|.a 1 J (.sub (b:=(1:Int)) J J (by unfold bq;omega))<|.Z J<|.block ?_;have s1:=hs0.ao 4 (iV);refine .lq [0] J (α:=Nat×Value×List Bool) (λ(m1,out,acc)=>[(5,out),(6,(.int .i64 ((((m1:Nat):Int)-1))))]) (λ(m1,out,acc) w'=>Sat w [cL out 4 (iV) (acc)] w'/\(m1<=m)/\(acc++bZ x m1=bZ x m)) (λ(m1,out,acc)=>m1) (m,(.slice none 0 0),[]) ⟨s1,KP _,J⟩ ?_;rintro⟨m1,out,acc⟩ w1 ⟨s2,hm1,hacc⟩;refine .seq<|.h<|.a 1 J (.geq J J)<|.nil<|.a8 J (λ c1=>?_) λ c1=>?_
 ·refine .skip<|.seq<|.block ?_;obtain⟨j,rfl⟩:∃ j,m1=j+1:=⟨m1-1,by omega⟩;refine .weaken [(0,_),(5,_),(6,(.int .i64 j)),(9,_)] ⟨J,J,If some (If (Value.int .i64) (by omega)),J,trivial⟩ ?_;have hl2:=If List.length hacc;simp only[AT,aK]at hl2;refine .region<|.a 4 J (.MO J J (hx))<|.e J (.J8 (b:=1) 1 J J J (by decide) (RX (QD _ _) hx) (by decide))<|.b 1 J (.cE (iV) (decide (((x/2^j)%2^1)=1)) sI J s2 J λ v1 _ s3 _=>?_);refine .ap 0 s3 0 (s3.aa 1 J) J λ v2 _ s4 _=>?_;refine .Z J<|.region<|.a 1 J (.sub (b:=(1:Int)) J J (by unfold bq;omega))<|.Z J ?_;exact⟨(j,v2,acc++[decide (((x/2^j)%2^1)=1)]),(wk J),⟨s4.pk [0],by omega,by rw[<-hacc];simp[bZ]⟩,(show((j))<(j+1)from by omega)⟩
 refine .ak<|.Z J<|.aC J J ?_;have h0:m1=0:=by omega
 subst h0;rw[show acc=bZ x m by rw[<-hacc];simp[bZ]]at s2;exact s2
def oS(v:Value)(l:List Bool)(w:World)(hv:RdL w v iV l)(hn:l.length<=1000000000):
  CallsV prog 192 [v] w λ r w'=>Sat w [cL r 5 (ae .u8) (bE l)] w':=by
 refine bQ func192 J λ hs0=>.Z J<|.h<|.ln 1 (hv.ext hs0.ext) J<|.a 1 J (.quo (b:=8) J J (by omega) (by unfold bq;omega))<|.f J (.eC (ae .u8) (0) cN J hs0 J J (by omega) (by omega) (by omega) λ v1 _ s1 _=>?_);refine .Z J<|.seq<|.h<|.ln 1 (hv.ext s1.ext) J<|.Z J<|.block ?_;have s2:=s1.bL 0 J (show List.replicate (((l.length+7)/8)) 0=pL l 0 from by rw[Dv]);refine .lq [3,11,12] J (α:=Nat) (λ k=>[(13,(.int .i64 k))]) (λ k w'=>Sat w [cL v1 5 (ae .u8) (pL l k)] w'/\(k<=l.length)) (λ k=>l.length-k) 0 ⟨s2,IN _⟩ ?_;rintro k w2 ⟨s3,hk⟩;refine .Z J<|.seq<|.a8 J (λ c1=>?_) λ c1=>?_
 ·refine .skip<|.seq<|.block<|.seq ?_;obtain⟨x,hx⟩:∃ x,(l)[k]? =some x:=⟨_,py c1⟩;refine .region<|.ix 1 (hv.ext s3.ext) J<|.le 0 (hv.ext s3.ext) hx J<|.Z J<|.Z J<|.cond J (λ c2=>?_) (λ c2=>?_)
  ·have hgt:=GF (dH hx);have hbl:=rX (l.take k) (k/8);have hdl:=QD 128 (2^(k%8));refine .region<|.a 2 J (.quo (b:=8) J J (by omega) (by unfold bq;omega))<|.ix 0 (s3.aa 0 J) J (hj:=by rw[kZ];omega)<|.le 0 (s3.aa 0 J) hgt J<|.a 1 J (.rem (b:=8) J J (by omega))<|.ix 3 (s3.aa 0 J) J (hj:=by rw[kZ];omega)<|.f J (.setL (a:=((dc (l.take k) (k/8))|||(128/2^(k%8)))) 0 Mr s3 J J J J (by rw[kZ];omega) λ _ s4 _=>?_);have s4:=s4.nn;refine .nil<|.U J ?_;have s5:=s4.bL 0 J (show(pL l k).set (k/8) ((dc (l.take k) (k/8))|||(128/2^(k%8)))=pL l (k+1)from by rw[Dw (by rw[hx,c2])]);exact ba (k+1) ⟨s5,by omega⟩
  refine .skip<|.U J ?_;have s6:=s3.bL 0 J (show pL l k=pL l (k+1)from by rw[Bo (by rw[hx];simpa using c2)]);exact ba (k+1) ⟨s6,by omega⟩
 refine .ak<|.Z J<|.aC J J ?_;have s7:=s3.bL 0 J (show pL l k=bE l from by rw[show k=l.length by omega,GD]);exact s7
def C8(v:Nat)(w:World)(hv:v<4294967296):
  CallsV prog 96 [(.int .u32 v)] w λ r w'=>r= .int .u32 (cG v 8:Nat)/\Sat w [] w':=by
 refine bQ func96 J λ hs0=>.Z J<|.seq<|.Z J<|.block<|.loop (α:=Nat×Nat) (λ(k,u)=>[(0,(.int .u32 u)),(3,(.int .i64 k))]) (λ(k,u) w'=>Sat w [] w'/\(k<=8)/\(u=cG v k)/\(u<4294967296)) (λ(k,u)=>8-k) (0,v) (wk J) ⟨hs0,IN _,J,hv⟩ ?_;rintro⟨k,u⟩ w1 ⟨s1,hk,hu,hub⟩;refine .seq<|.Z J<|.a8 J (λ c1=>?_) λ c1=>?_
 ·refine .skip<|.seq<|.block<|.Z J<|.a8 J (λ c2=>?_) λ c2=>?_
  ·refine .region<|.a 2 J (.C4 (b:=2197175160) J J J (by(try simp only[IntKind.bits]);omega) (by(try simp only[IntKind.bits]);omega))<|.Z J<|.U J ?_;exact ba (k+1,((u/2^1)^^^2197175160)) ⟨s1,by omega,by rw[cG,<-hu];simp[xe,c2],by have:=qg hub;simpa[xe,c2]using this⟩
  refine .U J<|.U J ?_;exact ba (k+1,(u/2^1)) ⟨s1,by omega,by rw[cG,<-hu];simp[xe,c2],by have:=qg hub;simpa[xe,c2]using this⟩
 refine .ak<|.Z J<|.aC J J ?_;rw[show k=8 by omega]at hu;exact⟨by rw[hu],s1⟩
def yw(v:Value)(l:List Nat)(w:World)(hv:RdL w v (ae .u8) l)(hb:∀ x∈l,x<256)(hn:l.length<=1000000000):
  CallsV prog 55 [v] w λ r w'=>r= .int .u32 (ep l:Nat)/\Sat w [] w':=by
 refine bQ func55 J λ hs0=>.Z J<|.Z J<|.seq<|.h<|.ln 1 (hv.ext hs0.ext) J<|.Z J<|.block<|.lq [6,7] J (α:=Nat×Nat) (λ(k,u)=>[(3,(.int .u32 u)),(8,(.int .i64 k))]) (λ(k,u) w'=>Sat w [] w'/\(k<=l.length)/\(u=mu (l.take k))/\(u<4294967296)) (λ(k,u)=>l.length-k) (0,4294967295) ⟨hs0,IN _,J,by omega⟩ ?_;rintro⟨k,u⟩ w1 ⟨s1,hk,hu,hub⟩;refine .Z J<|.seq<|.a8 J (λ c1=>?_) λ c1=>?_
 ·refine .skip<|.seq<|.block<|.seq ?_;obtain⟨x,hx⟩:∃ x,(l)[k]? =some x:=⟨_,py c1⟩;refine .region<|.ix 0 (hv.ext s1.ext) J<|.le 0 (hv.ext s1.ext) hx J<|.Z J ?_;have hxb:=hb x (a6 hx);have haa:u^^^x<4294967296:=ca hub (by omega);refine .region<|.a 3 J (.C4 J J J (by(try simp only[IntKind.bits]);omega) (by(try simp only[IntKind.bits]);omega))<|.cp 0 s1 (C8 ((u^^^x)) _ (haa)) J λ _ s2=>.Z J<|.U J ?_;exact ba (k+1,(cG ((u^^^x)) 8)) ⟨s2,by omega,by rw[aB hx,nz,<-hu,uX],qh haa 8⟩
 refine .ak<|.h<|.a 1 J (.J9 J (by omega))<|.Z J<|.aC J J ?_;rw[show k=l.length by omega,P7]at hu;exact⟨by rw[hu]<;>rfl,s1.pk []⟩
def ia(v:Value)(l:List Nat)(w:World)(hv:RdL w v (ae .u8) l)(hb:∀ x∈l,x<256)(hn:l.length<=1000000000):
  CallsV prog 26 [v] w λ r w'=>Sat w [cL r 5 (ae .u8) (aq l)] w':=by
 refine bQ func26 J λ hs0=>.Z J<|.h<|.cp 1 hs0 (yw _ (l) _ (hv.ext hs0.ext) (hb) (hn)) J λ _ s1=>.Z J<|.seq ?_;have hsl:=fQ hb;refine .region<|.z 1 J ?_;have s2:=s1.ao 5 (ae .u8);refine .ap 0 s2 0 (hv.ext s2.ext) J λ v1 _ s3 _=>.a 1 J (.eD (by rw[underlying104]<;>rfl) underlying5 J J)<|.a 2 J (.eD (by rw[underlying104]<;>rfl) underlying5 J J)<|.a 2 J (.eD (by rw[underlying104]<;>rfl) underlying5 J J)<|.a 2 J (.eD (by rw[underlying104]<;>rfl) underlying5 J J)<|.f J (.fa (ae .u8) [((ep (l))%2^8),(((ep (l))/2^8)%2^8),(((ep (l))/2^16)%2^8),(((ep (l))/2^24)%2^8)] cN J ⟨J,J,J,J,trivial⟩ J J J J (by decide) (by decide) s3 λ v2 _ s4 _=>?_);refine .ap 0 s4 0 (s4.aa 1 J) J λ v3 _ s5 _=>?_;refine .Z J<|.aC J J ?_;have s6:=(s5.pk [0]).pk [0];have s7:=s6.bL 0 J (show l++[((ep (l))%2^8),(((ep (l))/2^8)%2^8),(((ep (l))/2^16)%2^8),(((ep (l))/2^24)%2^8)]=aq l from by simp[aq,gZ]);exact s7
def xh(n:Nat)(w:World)(hn:n<2^32):
  CallsV prog 159 [(.int .u32 n)] w λ r w'=>∃ s:ByteArray,r= .string s/\s.size=4/\Sat w [] w':=by
 refine bQ func159 J λ hs0=>.Z J<|.h<|.a 2 J (.eD (by rw[underlying104]<;>rfl) underlying5 J J)<|.a 2 J (.eD (by rw[underlying104]<;>rfl) underlying5 J J)<|.a 2 J (.eD (by rw[underlying104]<;>rfl) underlying5 J J)<|.a 1 J (.eD (by rw[underlying104]<;>rfl) underlying5 J J)<|.f J (.fa (ae .u8) [((n/2^24)%2^8),((n/2^16)%2^8),((n/2^8)%2^8),(n%2^8)] cN J ⟨J,J,J,J,trivial⟩ J J J J (by decide) (by decide) hs0 λ v1 _ s1 _=>?_);refine .e J (.cS underlying43 underlying9 underlying5 J (s1.aa 0 J))<|.Z J<|.aC J J ?_;exact⟨_,J,by rw[aI]<;>rfl,s1.pk []⟩
def C9(x:Rc)(w:World)(hp:x.p.size<=1048576):
  CallsV prog 160 [((mH).ag x)] w λ r w'=>∃ s:ByteArray,r= .string s/\s.size=4/\Sat w [] w':=by
 refine bQ func160 J λ hs0=>.h<|.bx 0 hs0 J λ b1 _ s1 _ _=>.Z J<|.h<|.ld 1 s1 0 J<|.e J (.eD (by rw[underlying3]<;>rfl) underlying5 J J)<|.f J (.cE (ae .u8) (x.k%2^8) cN J s1 J λ v1 _ s2 _=>?_);refine .ld 1 s2 0 J<|.f J (.iy 1 cN s2 J J J (pn underlying9 _) (by simp only[KV,aj];omega) (by simp only[KV,aj];omega) λ v2 _ s3 _=>?_);refine .cq 0 s3 (yw _ ([(x.k%2^8)]++aF x.p) _ (s3.aa 1 J) (we) (by rw[AT,aj];simp;omega)) J λ _ s4=>.c 0 (xh ((ep ([(x.k%2^8)]++aF x.p))) _ (by have:=fQ (we (k:=x.k) (p:=x.p));omega)) J λ r2 _ h2=>?_;obtain⟨fs1,rfl,hfs1,p2⟩:=h2;have s5:=s4.au p2;refine .Z J<|.aC J J ?_;exact⟨_,J,hfs1,s5.pk []⟩
def Jj(x:Rc)(w:World)(hp:x.p.size<=1099511627776):
  CallsV prog 118 [((mH).ag x)] w λ r w'=>∃ (s:ByteArray) (e:Int),r= .tuple #[.string s,.int .i64 e]/\Sat w [] w'/\(e=0->s.size<=1048585):=by
 refine bQ func118 J λ hs0=>.h<|.bx 0 hs0 J λ b1 _ s1 _ _=>.Z J<|.seq<|.seq<|.cu 11 ((x.k≠1)/\(x.k≠2)) ?_ ?_
 ·refine .ld 1 s1 0 J<|.z 2 J<|.B 7 J (λ g1=>?_) λ g1=>?_
  ·refine .ld 1 s1 0 J<|.M J (by simp[g1])
  refine .M J (by simp[g1])
 refine .a8 J (λ c1=>?_) λ c1=>?_
 ·refine .Z J<|.bp J J J ?_;exact⟨_,_,J,s1.pk [],λ h9=>absurd h9 (by decide)⟩
 refine .skip<|.seq<|.h<|.ld 1 s1 0 J<|.e J (.bj underlying9 J)<|.Z J<|.a8 J (λ c2=>?_) λ c2=>?_
 ·refine .Z J<|.bp J J J ?_;exact⟨_,_,J,s1.pk [],λ h9=>absurd h9 (by decide)⟩
 refine .skip<|.seq<|.dk [0] s1 J (pl [0,1,2,3,5,8,9,10,14,15] (.two 4 11 (.two 6 11 (pl [7,1011,12,13,16,17,18] .fin) (pl [12,1006,7,13,16,17,18] .fin)) (pl [12,1004,1006,7,13,16,17,18] .fin))) λ s4 S1=>.ld 1 S1 0 J<|.e J (λ _ q=>.bj underlying9 J) S1<|.e J (λ _ q=>.eD (by rw[underlying3]<;>rfl) underlying104 J J) S1<|.e J (λ _ q=>.ch KX J q (i:=0) J J) S1<|.ld 1 S1 0 J<|.e J (λ _ q=>.eD (by rw[underlying3]<;>rfl) underlying5 J J) S1<|.ld 1 S1 0 J<|.x8 J J J J J J (OpE.call L2 J ((xh ((x.p.size%2^32)) _ (by omega)).mono λ r1 _ h1=>?_)) (OpE.cE (ae .u8) (x.k%2^8) cN J s4 J λ v1 _ s5 _=>?_)
 ·obtain⟨fs1,rfl,hfs1,p1⟩:=h1;have s6:=s4.au p1;have S2:=s6.pk [0];refine o4 S2 ?_;refine .x8 J J J J J J (OpE.call L3 J ((C9 x _ (by omega)).mono λ r2 _ h2=>?_)) (OpE.cE (ae .u8) (x.k%2^8) cN J s6 J λ v2 _ s7 _=>?_)
  ·obtain⟨ms1,rfl,hms1,p2⟩:=h2;have s8:=(s6.au p2).nn;have S3:=s8.pk [0];refine o4 S3 ?_;refine .e J (λ _ q=>.bN J J (by(try simp only[OP,aI,KV]);omega)) S3<|.C6 J J J (OpE.cE (ae .u8) (x.k%2^8) cN J s8 J λ v3 _ s9 _=>?_);have S4:=s9.pk [0,1];refine⟨(λ u=>Sat w [aw b1 112 [(.int .i64 x.k),(.string x.p)],cL v3 5 (ae .u8) ([(x.k%2^8)])] u),λ _ h=>h.pick [0] J,S4,?_⟩;refine .e J (λ _ q=>.cS underlying43 underlying9 underlying5 J (q.aa 1 J)) S4<|.e J (λ _ q=>.bN J J (by(try simp only[OP,aI,KV]);omega)) S4<|.e J (λ _ q=>.bN J J (by(try simp only[OP,aI,KV]);omega)) S4<|.Z S4 J<|.bp J J J ?_;exact⟨_,_,J,s9.pk [],λ h9=>by simp only[OP,aI,KV];omega⟩
  have s7:=s7.nn;have S5:=s7.pk [0,1];refine⟨(λ u=>Sat w [aw b1 112 [(.int .i64 x.k),(.string x.p)],cL v2 5 (ae .u8) ([(x.k%2^8)])] u),λ _ h=>h.pick [0] J,S5,?_⟩;refine .e J (λ _ q=>.cS underlying43 underlying9 underlying5 J (q.aa 1 J)) S5<|.c 0 S5 (C9 x _ (by omega)) J λ r3 _ h3=>?_;obtain⟨ms2,rfl,hms2,p3⟩:=h3;have s11:=s7.au p3;have S6:=s11.pk [0,1];refine⟨S6,?_⟩;refine .e J (λ _ q=>.bN J J (by(try simp only[OP,aI,KV]);omega)) S6<|.e J (λ _ q=>.bN J J (by(try simp only[OP,aI,KV]);omega)) S6<|.e J (λ _ q=>.bN J J (by(try simp only[OP,aI,KV]);omega)) S6<|.Z S6 J<|.bp J J J ?_;exact⟨_,_,J,s11.pk [],λ h9=>by simp only[OP,aI,KV];omega⟩
 have S7:=s5.pk [0,1];refine⟨(λ u=>Sat w [aw b1 112 [(.int .i64 x.k),(.string x.p)],cL v1 5 (ae .u8) ([(x.k%2^8)])] u),λ _ h=>h.pick [0] J,S7,?_⟩;refine .e J (λ _ q=>.cS underlying43 underlying9 underlying5 J (q.aa 1 J)) S7<|.c 0 S7 (xh ((x.p.size%2^32)) _ (by omega)) J λ r4 _ h4=>?_;obtain⟨fs2,rfl,hfs2,p4⟩:=h4;have s13:=(s5.au p4).nn;have S8:=s13.pk [0,1];refine⟨S8,?_⟩;refine .c 0 S8 (C9 x _ (by omega)) J λ r5 _ h5=>?_;obtain⟨ms3,rfl,hms3,p5⟩:=h5;have s14:=s13.au p5;have S9:=s14.pk [0,1];refine⟨S9,?_⟩;refine .e J (λ _ q=>.bN J J (by(try simp only[OP,aI,KV]);omega)) S9<|.e J (λ _ q=>.bN J J (by(try simp only[OP,aI,KV]);omega)) S9<|.e J (λ _ q=>.bN J J (by(try simp only[OP,aI,KV]);omega)) S9<|.Z S9 J<|.bp J J J ?_;exact⟨_,_,J,s14.pk [],λ h9=>by simp only[OP,aI,KV];omega⟩
def eJ(z:Int)(w:World)(h0:0<=z)(hz:z<=1000000000):
  CallsV prog 36 [(.int .i64 (z))] w λ r w'=>r= .string (ByteArray.mk #[74,79,85,82,78,65,76,46]++aZ z.toNat)/\Sat w [] w':=by
 refine bQ func36 J λ hs0=>.Z J<|.h<|.cp 1 hs0 (ie z _ h0 hz) J λ _ s1=>.e J (.bN J J (by have:=eK (n:=z.toNat) (by omega);simp only[cc];simp;omega))<|.Z J<|.aC J J ?_;exact⟨J,s1.pk []⟩
def mY(z:Int)(w:World)(h0:0<=z)(hz:z<=1000000000):
  CallsV prog 84 [(.int .i64 (z))] w λ r w'=>r= .string (ByteArray.mk #[83,69,71,77,69,78,84,46]++aZ z.toNat)/\Sat w [] w':=by
 refine bQ func84 J λ hs0=>.Z J<|.h<|.cp 1 hs0 (ie z _ h0 hz) J λ _ s1=>.e J (.bN J J (by have:=eK (n:=z.toNat) (by omega);simp only[cc];simp;omega))<|.Z J<|.aC J J ?_;exact⟨J,s1.pk []⟩
def Ly(v:Value)(l:List ByteArray)(nm:ByteArray)(w:World)(hv:RdL w v ah l)(hn:l.length<=1000000):
  CallsV prog 145 [v,(.string nm)] w λ r w'=>∃ b:Bool,r= .bool b/\Sat w [] w':=by
 refine bQ func145 J λ hs0=>.Z J<|.seq<|.h<|.ln 1 (hv.ext hs0.ext) J<|.Z J<|.block<|.lq [0,1,7,8] J (α:=Nat) (λ k=>[(9,(.int .i64 k))]) (λ k w'=>Sat w [] w') (λ k=>l.length-k) 0 hs0 ?_;rintro k w1 s1;refine .Z J<|.seq<|.a8 J (λ c1=>?_) λ c1=>?_
 ·refine .skip<|.seq<|.block<|.seq ?_;obtain⟨x,hx⟩:∃ x,(l)[k]? =some x:=⟨_,py c1⟩;refine .region<|.ix 0 (hv.ext s1.ext) J<|.le 0 (hv.ext s1.ext) hx J<|.Z J<|.h<|.a 2 J (.cY J J)<|.nil<|.a8 J (λ c2=>?_) λ c2=>?_
  ·refine .Z J<|.aC J J ?_;exact⟨_,J,s1.pk []⟩
  refine .skip<|.U J ?_;exact ba (k+1) s1
 refine .ak<|.Z J<|.aC J J ?_;exact⟨_,J,s1.pk []⟩
def xi(v u:Value)(l m:List (ByteArray×Bool))(w:World)(hv:RdL w v aE l)(hu:RdL w u aE m)(hn:l.length<=1000000):
  CallsV prog 31 [v,u] w λ r w'=>∃ b:Bool,r= .bool b/\Sat w [] w':=by
 refine bQ func31 J λ hs0=>.Z J<|.seq<|.h<|.ln 1 (hv.ext hs0.ext) J<|.ln 1 (hu.ext hs0.ext) J<|.Z J<|.a8 J (λ c1=>?_) λ c1=>?_
 ·refine .Z J<|.aC J J ?_;exact⟨_,J,hs0.pk []⟩
 refine .skip<|.seq<|.seq ?_;have hlm:l.length=m.length:=Pd.1 c1;refine .region<|.ln 1 (hv.ext hs0.ext) J<|.Z J<|.block<|.lq [0,1,12] J (α:=Nat) (λ k=>[(13,(.int .i64 k))]) (λ k w'=>Sat w [] w') (λ k=>l.length-k) 0 hs0 ?_;rintro k w1 s2;refine .Z J<|.seq<|.a8 J (λ c2=>?_) λ c2=>?_
 ·refine .skip<|.seq<|.block<|.seq ?_;obtain⟨x,hx⟩:∃ x,(l)[k]? =some x:=⟨_,py c2⟩;obtain⟨y,hy⟩:∃ y,m[k]? =some y:=⟨_,py (by have:=(sp.1 hx).1;omega)⟩;refine .U J<|.seq<|.dk [] s2 J (pl [0,1,2,3,4,5,6,7,8] .fin) λ s3 S1=>.ix 2 S1 (hv.ext ·.ext) J<|.lg 0 S1 (hv.ext ·.ext) hx J<|.ix 2 S1 (hu.ext ·.ext) J<|.lg 0 S1 (hu.ext ·.ext) hy J<|.e J (λ _ s=>.L9 (a:=x) (b:=y) Dh yS J J) S1<|.fin<|.a8 J (λ c3=>?_) λ c3=>?_
  ·refine .Z J<|.aC J J ?_;exact⟨_,J,s3.pk []⟩
  refine .skip<|.U J ?_;exact ba (k+1) s3
 refine .ak<|.Z J<|.aC J J ?_;exact⟨_,J,s2.pk []⟩
def fX(d:Dk)(nm data:ByteArray)(w:World)(hd:RdD w d)(hl:d.lt 100000):
  CallsV prog 35 [(.agg #[d.vi,d.vd,d.vu,d.vo]),(.string nm),(.string data)] w λ r w'=>∃ b:Bool,Sat w [cL r 83 aT (newF nm data b)] w':=by
 obtain⟨hl1,hl2,hl3,hl4⟩:=hl;have hs0:=Sat.start w;refine ay func35 J J ?_;refine .h<|.bx 0 hs0 J λ b1 _ s1 _ _=>.Z J<|.Z J<|.seq<|.h<|.ld 1 s1 0 J<|.c 1 (sQ _ (d.dir) nm _ (hd.e.ext s1.ext) (by omega)) J λ r1 _ h_1=>?_;obtain⟨fz1,rfl,hfz1,p1⟩:=h_1;have s2:=s1.au p1;refine .e J (.neq J J)<|.nil<|.a8 J (λ c1=>?_) λ c1=>?_
 ·refine .region<|.a 2 J (.build gB J ⟨J,J,trivial⟩ J)<|.f J (.aO (aT) (⟨5,nm,ByteArray.empty,ByteArray.empty⟩:dz) cZ (by decide) (by decide) s2 J λ v1 _ s3 _=>?_);have s3:=s3.nn;have s4:=s3.ao 83 (aT);refine .ap 0 s4 2 (s4.aa 1 J) J (h1:=by simp<;>omega) (h2:=by simp<;>omega) λ v2 _ s5 _=>.Z J<|.h<|.a 2 J (.build gB J ⟨J,J,trivial⟩ J)<|.f J (.aO (aT) (⟨1,nm,ByteArray.empty,ByteArray.empty⟩:dz) cZ (by decide) (by decide) s5 J λ v3 _ s6 _=>?_);refine .ap 0 s6 2 (s6.aa 3 J) J (h1:=by simp<;>omega) (h2:=by simp<;>omega) λ v_4 _ s7 _=>?_;have s7:=s7.pk [0,1,2];refine .Z J<|.seq<|.h<|.a 1 J (.bO J J)<|.nil<|.a8 J (λ c2=>?_) λ c2=>?_
  ·refine .region<|.a 3 J (.build gB J ⟨J,J,J,trivial⟩ J)<|.f J (.aO (aT) (⟨2,nm,ByteArray.empty,data⟩:dz) cZ (by decide) (by decide) s7 J λ v5 _ s8 _=>?_);refine .ap 0 s8 2 (s8.aa 3 J) J (h1:=by simp<;>omega) (h2:=by simp<;>omega) λ v6 _ s9 _=>?_;refine .Z J<|.h<|.a 2 J (.build gB J ⟨J,J,trivial⟩ J)<|.f J (.aO (aT) (⟨3,nm,ByteArray.empty,ByteArray.empty⟩:dz) cZ (by decide) (by decide) (s9.pick [0,1,2] J) J λ v7 _ s10 _=>?_);refine .ap 0 s10 2 (s10.aa 3 J) J (h1:=by simp<;>omega) (h2:=by simp<;>omega) λ v8 _ s11 _=>?_;refine .Z J<|.aC J J ?_;have s12:=(s11.pk [0,1,2]).pk [2];exact⟨true,by unfold newF;rw[OB c2];exact s12⟩
  refine .skip<|.h<|.a 2 J (.build gB J ⟨J,J,trivial⟩ J)<|.f J (.aO (aT) (⟨3,nm,ByteArray.empty,ByteArray.empty⟩:dz) cZ (by decide) (by decide) s7 J λ v9 _ s13 _=>?_);refine .ap 0 s13 2 (s13.aa 3 J) J (h1:=by simp<;>omega) (h2:=by simp<;>omega) λ v10 _ s14 _=>?_;refine .Z J<|.aC J J ?_;have s15:=(s14.pk [0,1,2]).pk [2];exact⟨true,by unfold newF;rw[Ow (Pd.1 c2)];exact s15⟩
 refine .skip<|.h<|.a 2 J (.build gB J ⟨J,J,trivial⟩ J)<|.f J (.aO (aT) (⟨1,nm,ByteArray.empty,ByteArray.empty⟩:dz) cZ (by decide) (by decide) s2 J λ v11 _ s16 _=>?_);have s16:=s16.nn;have s17:=s16.ao 83 (aT);refine .ap 0 s17 2 (s17.aa 1 J) J (h1:=by simp<;>omega) (h2:=by simp<;>omega) λ v12 _ s18 _=>.Z J<|.seq<|.h<|.a 1 J (.bO J J)<|.nil<|.a8 J (λ c3=>?_) λ c3=>?_
 ·refine .region<|.a 3 J (.build gB J ⟨J,J,J,trivial⟩ J)<|.f J (.aO (aT) (⟨2,nm,ByteArray.empty,data⟩:dz) cZ (by decide) (by decide) s18 J λ v13 _ s19 _=>?_);refine .ap 0 s19 2 (s19.aa 3 J) J (h1:=by simp<;>omega) (h2:=by simp<;>omega) λ v14 _ s20 _=>?_;refine .Z J<|.h<|.a 2 J (.build gB J ⟨J,J,trivial⟩ J)<|.f J (.aO (aT) (⟨3,nm,ByteArray.empty,ByteArray.empty⟩:dz) cZ (by decide) (by decide) (s20.pick [0,1,2] J) J λ v15 _ s21 _=>?_);refine .ap 0 s21 2 (s21.aa 3 J) J (h1:=by simp<;>omega) (h2:=by simp<;>omega) λ v16 _ s22 _=>?_;refine .Z J<|.aC J J ?_;have s23:=(s22.pk [0,1,2]).pk [2];exact⟨false,by unfold newF;rw[OB c3];exact s23⟩
 refine .skip<|.h<|.a 2 J (.build gB J ⟨J,J,trivial⟩ J)<|.f J (.aO (aT) (⟨3,nm,ByteArray.empty,ByteArray.empty⟩:dz) cZ (by decide) (by decide) s18 J λ v17 _ s24 _=>?_);refine .ap 0 s24 2 (s24.aa 3 J) J (h1:=by simp<;>omega) (h2:=by simp<;>omega) λ v18 _ s25 _=>?_;refine .Z J<|.aC J J ?_;have s26:=(s25.pk [0,1,2]).pk [2];exact⟨false,by unfold newF;rw[Ow (Pd.1 c3)];exact s26⟩
def oT(v:Value)(l:List Lv)(nm:ByteArray)(w:World)(hv:RdL w v aY l)(hr:RdLv w l)(h1:∀ x∈l,0<x.tx.length)(hn:l.length<=1000000):
  CallsV prog 72 [v,(.string nm)] w λ r w'=>∃ z:Int,r= .int .i64 z/\((z= -1/\∀ x∈l,x.nm≠nm)\/∃ (k:Nat) (x:Lv),z=(k:Int)/\l[k]? =some x/\x.nm=nm)/\Sat w [] w':=by
 refine bQ func72 J λ hs0=>.Z J<|.seq<|.h<|.ln 1 (hv.ext hs0.ext) J<|.Z J<|.block<|.lq [0,1,7,8] J (α:=Nat) (λ k=>[(9,(.int .i64 k))]) (λ k w'=>Sat w [] w'/\(∀ i,i<k->∀ x,l[i]? =some x->x.nm≠nm)) (λ k=>l.length-k) 0 ⟨hs0,λ i hi=>absurd hi (P9 i)⟩ ?_;rintro k w1 ⟨s1,hall⟩;refine .Z J<|.seq<|.a8 J (λ c1=>?_) λ c1=>?_
 ·refine .skip<|.seq<|.block<|.seq ?_;obtain⟨x,hx⟩:∃ x,(l)[k]? =some x:=⟨_,py c1⟩;obtain⟨t,ht⟩:∃ t,x.tx[0]? =some t:=⟨_,py (h1 x (a6 hx))⟩;have ht0:=(sp.1 ht).1;refine .region<|.ix 1 (hv.ext s1.ext) J<|.lg 0 (hv.ext s1.ext) hx J<|.al 0 s1 J λ b1 _ s2 _ _=>.sa 1 s2 0 J ((aY).one _) λ _ s3 _=>.nil<|.h<|.ld 2 s3 0 J<|.e J (.fV (j:=0) (E:=aR) lr J J ((hr x (a6 hx)).ext s3.ext).x (by have:=(sp.1 ht).1;omega)) ?_;refine .fl 0 ((hr x (a6 hx)).ext s3.ext).x J<|.lf 0 ((hr x (a6 hx)).ext s3.ext).x ht J<|.a 1 J (.cY J J)<|.nil<|.a8 J (λ c2=>?_) λ c2=>?_
  ·refine .Z J<|.aC J J ?_;exact⟨_,J,.inr ⟨k,x,J,hx,(Lv.sK ht).trans c2⟩,s3.pk []⟩
  refine .skip<|.U J ?_;exact ba (k+1) ⟨s3.pk [],gw hall hx (λ e=>c2 ((Lv.sK ht).symm.trans e))⟩
 refine .ak<|.Z J<|.aC J J ?_;exact⟨_,J,.inl ⟨J,jZ hall c1⟩,s1.pk []⟩
end Go.Proofs.YtcmldpiicnobnaaGreatDoor
namespace Go.Kw
open Go.RowKit
section
variable {P:Program} {n:Nat} {L:aA} {w w0:World} {cs:List Chunk} {K:Value->World->Prop} {d:Option Nat} {x:Operand} {ty:TypeId} {g:Option (Nat×Bool)} {pos:String} {af:Array Edge}
def Ev.Lj{T i b off m:Nat}{U:TypeId}{cells vs:List Value}(hT:db P T m=true)(hx:aH L x=some (.pointer (some ⟨b,off,none⟩)))(hs:Sat w0 cs w)(hi:cs[i]? =some (aw b U cells))(hv:(cells.drop off).take m=vs)(hm:vs.length=m):
  Ev P n L w ⟨d,.load T x,ty,pos,af,g⟩ (.agg vs.toArray):=.of λ ρ hρ=>by
 subst hm;have hl:=Qn (P:=P) w ⟨b,off,none⟩ vs (λ q u hu=>by
  rw[Ph];rw[<-hv,Pg]at hu;split at hu
  ·rw[Q0]at hu;exact hs.cell hi hu
  ·cases hu)
 have hag:(isAgg T).run P w= .ok true w:=by
  unfold db at hT;cases hun:P.underlying T with
  |none=>simp[hun]at hT
  |some D=>cases D<;>simp[hun]at hT<;>simp[isAgg,OH hun,go_sem]
 have hsz:(sizeOf T).run P w= .ok vs.length w:=by
  unfold db at hT;cases hin:P.info? T with
  |none=>simp[hin]at hT
  |some inf=>simp[hin]at hT;simp[sizeOf,typeInfo,hin,hT.2,go_sem]
 have hld:(Instr.loadAt T (ρ x)).run P w= .ok (.agg vs.toArray) w:=by
  simp only[Instr.loadAt,loadVar,hρ hx,Instr.sureAddr,ON,OR,Ox,hag,hsz,hl,Qa]
 simp only[execOp,ON,hld,Ox,OR]
def Lz{α:Type}(E:Enc α)(m:Nat)(hE:E.s=m)(a b:α)(zc:Array Value):Instr.fill (λ i=>some (i*m,m)) ((Array.range (2*m)).map (zc[· %zc.size]!)) [(0,E.ag a),(1,E.ag b)]=some (E.all [a,b]).toArray:=by
 have e0:(Array.range (2*m)).map (zc[· %zc.size]!)=([]++(List.range (2*m)).map (zc[· %zc.size]!)).toArray:=by
  apply RY;simp
 have hl:∀ x:α,(E.enc x).length=m:=λ x=>by rw[E.len,hE]
 rw[e0,ik E m hE a 0 [] _ _ (by simp) (by simp;omega),ik E m hE b 1 _ _ _ (by simp[hl]) (by simp;omega),Instr.fill];have e1:List.drop m (List.drop m ((List.range (2*m)).map (zc[· %zc.size]!)))=[]:=by
  apply P8;simp;omega
 rw[e1,Enc.all_cons,Enc.all_one];simp
def OpE.Jd{α:Type}{y:Operand}{t e b m:Nat}{z:Value}(E:Enc α)(a b':α)(hty:SlTy P t e E.s z b)(hE:E.s=m)(hp:0<m)(hm:2*m<=16777216)(hs:Sat w0 cs w)(hx:aH L x=some (E.ag a))(hy:aH L y=some (E.ag b'))
  (hk:∀ u w',Sat w0 (cs++[cL u e E [a,b']]) w'->Chg [] w w'->K u w'):OpE P n L w ⟨d,.buildSlice t 2 #[(0,x),(1,y)],ty,pos,af,g⟩ K:=by
 subst hE;have hfill:=Lz E E.s J a b';obtain⟨inf,i1,i2,i3,i4⟩:=hty.info;have hz:=hty.zs;refine .val (λ ρ hρ=>?_) (hk (.slice (some ⟨w.heap.size,0,none⟩) 2 2) (w.alloc (.cells (E.all [a,b']).toArray e)) ?_ (.alloc _ _))
 ·have hrun:(Instr.buildSlice t 2 #[(0,E.ag a),(1,E.ag b')]).run P w= .ok (.slice (some ⟨w.heap.size,0,none⟩) 2 2) (w.alloc (.cells (E.all [a,b']).toArray e)):=by
   have hf:=hfill z.cells;have h24:¬ 2^24<2*E.s:=by omega
   have h0:¬ (2*E.s:Nat)=0:=by omega
   have h00:¬ (E.s:Nat)=0:=by omega
   have r1:(zeroValue e).run P w= .ok z w:=by simp[zeroValue,typeInfo,i1,i2,go_sem]
   have r2:(sizeOf e).run P w= .ok E.s w:=by simp[sizeOf,typeInfo,i1,i3,go_sem]
   have r3:(newRow e (E.all [a,b']).toArray).run P w= .ok ⟨w.heap.size,0,none⟩ (w.alloc (.cells (E.all [a,b']).toArray e)):=by simp[newRow,go_sem]
   simp only[Instr.buildSlice,OH hty.und,r2,ON,Ox,RL,h24,h0,h00,Py,r1,OR,hf,r3]
  simp only[execOp,Qe,P5,QS,hρ hx,hρ hy,ON,hrun,Ox,OR]
 ·have h:=hs.ou e E.s 2 2 (E.all [a,b']) (by unfold maxLen;omega) (KP _) (by rw[E.all_length];rfl);unfold cL;rw[OA (by rw[E.all_length];exact KP _)]at h;exact h
end
section
variable {P:Program} {n:Nat} {fn:Func} {Φ:Value->World->Prop} {L:aA} {w:World}
def Jk{t u s q T U S a b c:Nat}{vs us ss:List Value}{z:Value}(hr:fn.results= #[.cell t T,.cell u U,.cell s S,.tmp q])(hv:look L t=some (.pointer (some ⟨a,0,none⟩)))(hu:look L u=some (.pointer (some ⟨b,0,none⟩)))(hs:look L s=some (.pointer (some ⟨c,0,none⟩)))(hz:look L q=some z)
  (hT:db P T vs.length=true) (hU:db P U us.length=true) (hS:db P S ss.length=true) (h1:∀ j u,vs[j]? =some u->w.cell? ⟨a,j,none⟩=some u) (h2:∀ j u,us[j]? =some u->w.cell? ⟨b,j,none⟩=some u) (h3:∀ j u,ss[j]? =some u->w.cell? ⟨c,j,none⟩=some u)
  (h:Φ (.tuple #[.agg vs.toArray,.agg us.toArray,.agg ss.toArray,z]) w):aG P n fn Φ L w:=λ A ha=>by
 have g1:=ha.slot t _ hv;have g2:=ha.slot u _ hu;have g3:=ha.slot s _ hs;have g4:=ha.slot q _ hz;refine⟨_,?_,h⟩;simp[results,hr,PC,g1,g2,g3,g4,asAddr,ed hT h1,ed hU h2,ed hS h3]
end
end Go.Kw
namespace Go.Proofs.YtcmldpiicnobnaaGreatDoor
open Go.RowKit Go.Kw
def Jl(v lv:Value)(al:List (ByteArray×Bool))(l:List Lv)(w:World)(hv:RdL w v aE al)(hlv:RdL w lv aY l)(hlr:RdLv w l)(hat9:atsOk al)(hlo:LvsOk al l)(hn:l.length<=4):
  CallsV prog 73 [v,lv] w λ r w'=>∃ (x:Co) (F:List Nat),r= .tuple #[x.val,.int .i64 ((0:Nat):Int)]/\Sat w [dD F (λ w1=>RdLv w1 l->RdC w1 x)] w'/\JoinR al l x:=by
 have hal9:=hat9.2.2;have hs0:=Sat.start w;refine ay func73 J J ?_;refine .h<|.al 0 hs0 J λ b1 _ s1 _ _=>.Z J<|.h<|.f J (.eI (aE) jF s1 λ v1 _ s2 _=>?_);refine .ap 1 s2 1 (hv.ext s2.ext) J (h1:=by simp<;>omega) (h2:=by simp<;>omega) λ v2 _ s3 _=>.e J (.build wS J ⟨(s3.aa 1 J).a7,trivial⟩ J)<|.al 0 s3 J λ b2 _ s4 _ _=>?_;have s4:=s4.nn;refine .sa 0 s4 2 (vs:=[v2,(.slice none 0 0),(.slice none 0 0),(.slice none 0 0),(.slice none 0 0),(.slice none 0 0),(.slice none 0 0)]) J (λ v h=>by simp only[LD,KY,OE]at h;rcases h with rfl|rfl|rfl|rfl|rfl|rfl|rfl;exact(s4.aa 1 J).a7;exact J;exact J;exact J;exact J;exact J;exact J) λ _ s5 _=>.nil<|.seq<|.h<|.ln 1 (hlv.ext s5.ext) J<|.Z J<|.block ?_;have s6:=(Sat.order [1,0,2] (by decide) s5.tail).ax.pk [0,1,2];obtain⟨hF1,s7⟩:=s6.cn 1 (Q:=λ w1=>RdLv w1 l->RdC w1 (Co.mk v2 (Value.slice none 0 0) (Value.slice none 0 0) (Value.slice none 0 0) (Value.slice none 0 0) (Value.slice none 0 0) (Value.slice none 0 0) al [] [] [] [] [] [])) (λ w1 hA=>λ _=>⟨hA.aa 0 J,RdL.nil _ _,RdL.nil _ _,RdL.nil _ _,RdL.nil _ _,RdL.nil _ _,RdL.nil _ _,λ t h=>(by cases h),λ t h=>(by cases h),λ t h=>(by cases h)⟩);have s8:=(Sat.order [1,2,0] (by decide) s7.tail).ax.pk [0,1,2];refine .lq [0,1,4,6,14,15] J (α:=Nat×Co×List Nat) (λ(k,x,F)=>[(16,(.int .i64 k))]) (λ(k,x,F) w'=>Sat w (s8.U [(1,aw b2 94 [x.va,x.vt,x.vx,x.vr,x.vn,x.vh,x.vl]),(2,dD F (λ w1=>RdLv w1 l->RdC w1 x))]) w'/\(JoinR al (l.take k) x)/\(k<=l.length)) (λ(k,x,F)=>l.length-k) (0,(Co.mk v2 (Value.slice none 0 0) (Value.slice none 0 0) (Value.slice none 0 0) (Value.slice none 0 0) (Value.slice none 0 0) (Value.slice none 0 0) al [] [] [] [] [] []),hF1) ⟨s8,.nil ⟨J,J,J,J,J,J,J⟩,IN _⟩ ?_;rintro⟨k,x,F⟩ w6 ⟨s9,hjr,hk⟩;refine .Z J<|.seq<|.a8 J (λ c1=>?_) λ c1=>?_
 ·refine .skip<|.seq<|.block<|.seq ?_;obtain⟨y,hy⟩:∃ y,(l)[k]? =some y:=⟨_,py c1⟩;have hk4:=(sp.1 hy).1;refine .region<|.ix 0 (hlv.ext s9.ext) J<|.lg 0 (hlv.ext s9.ext) hy J<|.al 0 s9 J λ b3 _ s10 _ _=>.sa 0 s10 3 J ((aY).one _) λ _ s11 _=>.nil<|.Z J<|.h<|.lo 0 s11 1 J<|.a 1 J (.Lj (vs:=[y.sa.val,y.st.val,y.sx.val,y.sr.val,y.sn.val,y.sh.val,y.sl.val]) cJ J s11 (i:=3) J J J)<|.c 0 (Aq x y.co (l.take k).length 1 _ ((s11.aL 2 J) (hlr.ext s11.ext)) ((hlr y (a6 hy)).ext s11.ext) (hjr.ok hat9 (hlo.take k)) (hlo.ok y (a6 hy)).1 (by rw[M2];omega) (by decide) (hjr.names.1.trans (hlo.ok y (a6 hy)).2.symm) (hjr.apart hlo hy)) J λ r1 _ h_1=>?_;obtain⟨cz1,cF1,rfl,hcz1,p1⟩:=h_1;have s12:=(s11.au p1).nn;refine .sa 3 s12 1 (vs:=[cz1.va,cz1.vt,cz1.vx,cz1.vr,cz1.vn,cz1.vh,cz1.vl]) J (λ v h=>by simp only[LD,KY,OE]at h;rcases h with rfl|rfl|rfl|rfl|rfl|rfl|rfl;exact((s12.aL 4 J) ((s12.aL 2 J) (hlr.ext s12.ext)) ((hlr y (a6 hy)).ext s12.ext)).a.a7;exact((s12.aL 4 J) ((s12.aL 2 J) (hlr.ext s12.ext)) ((hlr y (a6 hy)).ext s12.ext)).t.a7;exact((s12.aL 4 J) ((s12.aL 2 J) (hlr.ext s12.ext)) ((hlr y (a6 hy)).ext s12.ext)).x.a7;exact((s12.aL 4 J) ((s12.aL 2 J) (hlr.ext s12.ext)) ((hlr y (a6 hy)).ext s12.ext)).r.a7;exact((s12.aL 4 J) ((s12.aL 2 J) (hlr.ext s12.ext)) ((hlr y (a6 hy)).ext s12.ext)).n.a7;exact((s12.aL 4 J) ((s12.aL 2 J) (hlr.ext s12.ext)) ((hlr y (a6 hy)).ext s12.ext)).h.a7;exact((s12.aL 4 J) ((s12.aL 2 J) (hlr.ext s12.ext)) ((hlr y (a6 hy)).ext s12.ext)).l.a7) λ _ s13 _=>.Z J<|.Z J<|.az J (J)<|.skip<|.U J ?_;have s14:=(Sat.order [2,4,0,1,3] (by decide) s13.tail).ax.pk [0,1,2,3,4];obtain⟨hF2,s15⟩:=s14.cn 2 (Q:=λ w1=>RdLv w1 l->RdC w1 cz1) (λ w1 hA=>λ q=>hA.aL 1 J (hA.aL 0 J q) (q y (a6 hy)));have s16:=(Sat.order [1,2,0,3] (by decide) s15.tail).ax.pk [0,1,2,3];exact ba (k+1,cz1,hF2) ⟨s16.pk [0,1,2],hjr.next hy hcz1,by omega⟩
 refine .ak<|.h<|.lo 0 s9 1 J<|.sa 0 s9 0 (vs:=[x.va,x.vt,x.vx,x.vr,x.vn,x.vh,x.vl]) J (λ v h=>by simp only[LD,KY,OE]at h;rcases h with rfl|rfl|rfl|rfl|rfl|rfl|rfl;exact((s9.aL 2 J) (hlr.ext s9.ext)).a.a7;exact((s9.aL 2 J) (hlr.ext s9.ext)).t.a7;exact((s9.aL 2 J) (hlr.ext s9.ext)).x.a7;exact((s9.aL 2 J) (hlr.ext s9.ext)).r.a7;exact((s9.aL 2 J) (hlr.ext s9.ext)).n.a7;exact((s9.aL 2 J) (hlr.ext s9.ext)).h.a7;exact((s9.aL 2 J) (hlr.ext s9.ext)).l.a7) λ _ s18 _=>.Z J<|.ret ?_;show aG _ _ _ _ _ _;refine cr (vs:=[x.va,x.vt,x.vx,x.vr,x.vn,x.vh,x.vl]) J J J cJ (λ j u hu=>s18.cell (i:=0) J hu) ?_;exact⟨x,F,J,s18.pk [2],by rw[OA (by omega)]at hjr;exact hjr⟩
end Go.Proofs.YtcmldpiicnobnaaGreatDoor
namespace Go.Kw
def dV(c:Co):List Nat:=uv c.tx.length++(c.tx.flatMap (λ x=>tx1 x.v)++(uv c.rg.length++(cf 0 (c.rg.map Iv.v)++j3 c.nd c.hd c.rl)))
def Jm(X:List ByteArray->List Nat)(T:List Nat->List Nat)(c:Co):bm X T c.v=[67,83,49]++(uv c.at_.length++(gP X T c.v.at_ c.v.tk c.at_.length++dV c)):=tO X T c
def Il:Co:=⟨.slice none 0 0,.slice none 0 0,.slice none 0 0,.slice none 0 0,.slice none 0 0,.slice none 0 0,.slice none 0 0,[],[],[],[],[],[],[]⟩
def yx(w:World):RdC w Il:=⟨RdL.nil _ _,RdL.nil _ _,RdL.nil _ _,RdL.nil _ _,RdL.nil _ _,RdL.nil _ _,RdL.nil _ _,λ t h=>(by cases h),λ t h=>(by cases h),λ t h=>(by cases h)⟩
def LA{w:World}{v:Value}{S:List (SV×List ByteArray)}(h:RdL w v (dN ByteArray) S):RdL w v ef (S.map λ p=>(⟨p.1,p.2⟩:Tk)):=by
 have e:ef.all (S.map λ p=>(⟨p.1,p.2⟩:Tk))=(dN ByteArray).all S:=by
  unfold Enc.all;rw[QW];rfl
 unfold RdL at h⊢;rw[e,OC];exact h
