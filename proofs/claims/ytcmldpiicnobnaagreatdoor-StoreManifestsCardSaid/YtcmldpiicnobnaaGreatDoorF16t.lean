/-The walks of the functions of F16t,printed by our own program (kwgen.py) out of our descriptions (base.py). -/
import Derived.Test.YtcmldpiicnobnaaGreatDoorM41k
import Derived.Test.YtcmldpiicnobnaaGreatDoorKv
set_option linter.all false
set_option maxHeartbeats 1000000
set_option maxRecDepth 100000
open Go.Proofs.YtcmldpiicnobnaaGreatDoor
open List
open Go.Proofs.Tryz
namespace Go.Proofs.YtcmldpiicnobnaaGreatDoor
open Go.RowKit Go.Kw
def ib:Dq prog 102=true:=by kernel_rfl
def Az(v:Value)(b:List Nat)(w:World)(hv:RdL w v (ae .u8) b)(hb:∀ x∈b,x<256)(hn:b.length<=1000000000)(h4:4<=b.length)(hsum:gZ (ep (b.take (b.length-4)))=b.drop (b.length-4)):
  CallsV prog 27 [v] w λ r w'=>∃ v',r= .tuple #[v',.int .i64 ((0:Nat):Int)]/\Sat w [cL v' 5 (ae .u8) (b.take (b.length-4))] w':=by
 refine bQ func27 J λ hs0=>.Z J<|.seq<|.h<|.ln 1 (hv.ext hs0.ext) J<|.Z J<|.az J (KG (by omega))<|.skip<|.h<|.ln 1 (hv.ext hs0.ext) J<|.Z J<|.seq<|.seq<|.dk [] hs0 J (pl [0,1,2,5,6,7] (.two 3 8 (.two 4 8 (pl [1008,9,10] .fin) (pl [9,1004,10] .fin)) (pl [9,1003,1004,10] .fin))) λ s1 S1=>.z 2 S1 J<|.e J (λ _ s=>.aV (E:=ae .u8) (a:=0) (c:=(b.length-4)) cN J (hv.ext s.ext) J ⟨_,J⟩ (IN _) (by omega)) S1<|.z 2 S1 J<|.e J (λ _ s=>.aV (E:=ae .u8) (a:=(b.length-4)) (c:=(b).length) cN J (hv.ext s.ext) ⟨_,J⟩ J (by omega) (KP _)) S1<|.two J J J J J J (OpE.call J3 J ((oR _ (((b).take (b.length-4)).drop 0) _ (((hv.ext s1.ext)).sub (a:=0) (b:=(b.length-4)) (IN _) (by omega)) (λ x hx=>hb x (OS (P1 hx))) (by simp;omega)).mono λ r1 _ h1=>?_)) (OpE.ev (Ev.sL (E:=ae .u8) underlying102 J (((hv.ext s1.ext)).sub (a:=(b.length-4)) (b:=(b).length) (by omega) (KP _)) (by simp;omega)) ⟨S1,?_⟩)
 ·obtain⟨rfl,p1⟩:=h1;have s2:=s1.au p1;have S2:=s2.pk [];refine⟨S2,?_⟩;refine .two J J J J J J (OpE.call J2 J ((dU ((ep (((b).take (b.length-4)).drop 0))) _ (fQ (λ x hx=>hb x (OS (P1 hx))))).mono λ r2 _ h2=>?_)) (OpE.ev (Ev.sL (E:=ae .u8) underlying102 J (((hv.ext s2.ext)).sub (a:=(b.length-4)) (b:=(b).length) (by omega) (KP _)) (by simp;omega)) ⟨S2,?_⟩)
  ·obtain⟨rfl,p2⟩:=h2;have s3:=s2.au p2;have S3:=s3.pk [];refine⟨S3,?_⟩;refine .f J (.ev (Ev.sL (E:=ae .u8) underlying102 J (((hv.ext s3.ext)).sub (a:=(b.length-4)) (b:=(b).length) (by omega) (KP _)) (by simp;omega)) ⟨S3,?_⟩);refine .e J (λ _ s=>.sM (E:=ae .u8) lu J (((hv.ext s.ext)).sub (a:=(b.length-4)) (b:=(b).length) (by omega) (KP _)) (by show _*1=_;simp;omega) (by decide)) S3<|.e J (λ _ s=>.kd ib (J) (by simp;omega) J J) S3<|.fin<|.az J (KG (λ h=>h (by rw[PK,P7];exact hsum)))<|.skip<|.h<|.f J (.eI (ae .u8) cN s3 λ v1 _ s4 _=>?_);have s4:=s4.nn;refine .a 2 J (.aV (E:=ae .u8) (a:=0) (c:=(b.length-4)) cN J (hv.ext s4.ext) J ⟨_,J⟩ (IN _) (by omega))<|.ap 0 s4 0 (((hv.ext s4.ext)).sub (a:=0) (b:=(b.length-4)) (IN _) (by omega)) J λ v2 _ s5 _=>.Z J<|.bp J J J ?_;have s7:=(s5.pk [0]).bL 0 J (show((b).take (b.length-4)).drop 0=b.take (b.length-4)from by simp);exact⟨_,J,s7⟩
  refine .e J (λ _ s=>.sM (E:=ae .u8) lu J (((hv.ext s.ext)).sub (a:=(b.length-4)) (b:=(b).length) (by omega) (KP _)) (by show _*1=_;simp;omega) (by decide)) S2<|.c 0 S2 (dU ((ep (((b).take (b.length-4)).drop 0))) _ (fQ (λ x hx=>hb x (OS (P1 hx))))) J λ r3 _ h3=>?_;obtain⟨rfl,p3⟩:=h3;have s8:=s2.au p3;have S4:=s8.pk [];refine⟨S4,?_⟩;refine .e J (λ _ s=>.kd ib (J) (by simp;omega) J J) S4<|.fin<|.az J (KG (λ h=>h (by rw[PK,P7];exact hsum)))<|.skip<|.h<|.f J (.eI (ae .u8) cN s8 λ v3 _ s9 _=>?_);have s9:=s9.nn;refine .a 2 J (.aV (E:=ae .u8) (a:=0) (c:=(b.length-4)) cN J (hv.ext s9.ext) J ⟨_,J⟩ (IN _) (by omega))<|.ap 0 s9 0 (((hv.ext s9.ext)).sub (a:=0) (b:=(b.length-4)) (IN _) (by omega)) J λ v_4 _ s10 _=>.Z J<|.bp J J J ?_;have s12:=(s10.pk [0]).bL 0 J (show((b).take (b.length-4)).drop 0=b.take (b.length-4)from by simp);exact⟨_,J,s12⟩
 refine .e J (λ _ s=>.sM (E:=ae .u8) lu J (((hv.ext s.ext)).sub (a:=(b.length-4)) (b:=(b).length) (by omega) (KP _)) (by show _*1=_;simp;omega) (by decide)) S1<|.c 0 S1 (oR _ (((b).take (b.length-4)).drop 0) _ (((hv.ext s1.ext)).sub (a:=0) (b:=(b.length-4)) (IN _) (by omega)) (λ x hx=>hb x (OS (P1 hx))) (by simp;omega)) J λ r4 _ h_4=>?_;obtain⟨rfl,p4⟩:=h_4;have s13:=s1.au p4;have S5:=s13.pk [];refine⟨S5,?_⟩;refine .c 0 S5 (dU ((ep (((b).take (b.length-4)).drop 0))) _ (fQ (λ x hx=>hb x (OS (P1 hx))))) J λ r5 _ h5=>?_;obtain⟨rfl,p5⟩:=h5;have s14:=s13.au p5;have S6:=s14.pk [];refine⟨S6,?_⟩;refine .e J (λ _ s=>.kd ib (J) (by simp;omega) J J) S6<|.fin<|.az J (KG (λ h=>h (by rw[PK,P7];exact hsum)))<|.skip<|.h<|.f J (.eI (ae .u8) cN s14 λ v5 _ s15 _=>?_);have s15:=s15.nn;refine .a 2 J (.aV (E:=ae .u8) (a:=0) (c:=(b.length-4)) cN J (hv.ext s15.ext) J ⟨_,J⟩ (IN _) (by omega))<|.ap 0 s15 0 (((hv.ext s15.ext)).sub (a:=0) (b:=(b.length-4)) (IN _) (by omega)) J λ v6 _ s16 _=>?_;have s16d:Sat w [cL v6 5 (ae .u8) (((b).take (b.length-4)).drop 0)] _:=s16;refine .Z J<|.bp J J J ?_;have s18:=(s16d.pk [0]).bL 0 J (show((b).take (b.length-4)).drop 0=b.take (b.length-4)from by simp);exact⟨_,J,s18⟩
def Ce(v:Value)(b p:List Nat)(w:World)(hv:RdL w v (ae .u8) b)(he:b=aq p)(hb:∀ x∈p,x<256)(hn:p.length<=10000000):
  CallsV prog 27 [v] w λ r w'=>∃ v',r= .tuple #[v',.int .i64 ((0:Nat):Int)]/\Sat w [cL v' 5 (ae .u8) p] w':=by
 subst he;have hl:=aX p;have ht:(aq p).take ((aq p).length-4)=p:=by rw[hl,Q8,aq,take_left']<;>rfl
 have hd:(aq p).drop ((aq p).length-4)=gZ (ep p):=by rw[hl,Q8,aq,drop_left']<;>rfl
 have h:=Az v (aq p) w hv (λ x hx=>by
  rcases OM.1 hx with hx|hx
  ·exact hb x hx
  ·exact oG _ x hx) (by omega) (by omega) (by rw[ht,hd])
 rw[ht]at h;exact h
def n5{b p:List Nat}(he:b=aq p)(hp:∀ x∈p,x<256):∀ x∈b,x<256:=λ x hx=>by
 rw[he]at hx;rcases OM.1 hx with hx|hx
 ·exact hp x hx
 exact oG _ x hx
def gf(p:ByteArray):List ByteArray->List Nat->List Nat
 |x::W,c::C=>wA p x c++gf x W C
 |_,_=>[]
def gh{W:List ByteArray}{k:Nat}{x:ByteArray}(hx:W[k]? =some x):bF W (k+1)=x:=by
 unfold bF;rw[OB (by omega),Q8,iL hx]
def yA{W:List ByteArray}{C:List Nat}{k c:Nat}{x:ByteArray}(hx:W[k]? =some x)(hc:C[k]? =some c):gf (bF W k) (W.drop k) (C.drop k)=uv (bJ (bF W k) x)++(uv (x.size-bJ (bF W k) x)++(aF (x.extract (bJ (bF W k) x) x.size)++(uv (c-1)++gf x (W.drop (k+1)) (C.drop (k+1))))):=by
 rw[fc hx,fc hc,gf,wA];simp only[No]
def rD{W:List ByteArray}{C:List Nat}(h:C.length=W.length):∀ k,k<=W.length->cM W C k++gf (bF W k) (W.drop k) (C.drop k)=uv W.length++gf (bF W 0) W C
 |0,_=>rfl
 |k+1,hk=>by
  rw[<-rD h k (by omega)];have hx:W[k]? =some W[k]:=py (by omega);have hc:C[k]? =some C[k]:=py (by omega);rw[yA hx hc,cM,iL hx,iL hc,gh hx,wA];simp only[No]
def Cf{W:List ByteArray}{C:List Nat}(h:C.length=W.length):cM W C W.length=uv W.length++gf (bF W 0) W C:=by
 have:=rD h W.length (KP _);rw[P8 (KP _)]at this;simpa[gf]using this
def rE:∀ (a b:List UInt8),a.take (eG a b)=b.take (eG a b)
 |x::a,y::b=>by
  unfold eG;split
  ·rename_i h;rw[Qz,Qz,h,rE a b]
  simp
 |[],_=>by simp[eG]
 |_::_,[]=>by simp[eG]
def uw:∀ (a b:List UInt8),eG a b<=a.length
 |x::a,y::b=>by
  have:=uw a b;unfold eG;split
  ·simp;omega
  omega
 |[],_=>by simp[eG]
 |_::_,[]=>by simp[eG]
theorem iz(s:ByteArray):strOf (aF s)=s:=by unfold aF;rw[jc]
def FT(p x:ByteArray):p.extract 0 (bJ p x)++strOf (aF (x.extract (bJ p x) x.size))=x:=by
 rw[iz];refine nE ?_;have e:(p.extract 0 (bJ p x)++x.extract (bJ p x) x.size).data.toList=(p.extract 0 (bJ p x)).data.toList++(x.extract (bJ p x) x.size).data.toList:=by simp
 rw[e,uN,uN,PK,QT];have h:=rE p.data.toList x.data.toList;show p.data.toList.take (eG p.data.toList x.data.toList)++_=_;have h2:(x.data.toList.drop (bJ p x)).take (x.size-bJ p x)=x.data.toList.drop (bJ p x):=OA (by rw[OJ,zl];exact KP _);rw[h,h2];exact P0 _ _
def Jn(v:Value)(l:List Nat)(w:World)(hv:RdL w v (ae .u8) l)(hb:∀ x∈l,x<256):
  CallsV prog 183 [v] w λ r w'=>r= .tuple #[.int .u64 ((E3 l).1:Nat),.int .i64 ((E3 l).2.1:Nat),.int .i64 ((E3 l).2.2:Nat)]/\Sat w [] w':=by
 refine bQ func183 J λ hs0=>.Z J<|.Z J<|.seq<|.h<|.ln 1 (hv.ext hs0.ext) J<|.Z J<|.block<|.lq [8,9] J (α:=Nat×Nat) (λ(k,u)=>[(5,(.int .u64 u)),(10,(.int .i64 k))]) (λ(k,u) w'=>Sat w [] w'/\(k<=l.length)/\(FL k u (l.drop k)=FL 0 0 l)/\(u<2^(7*k))/\(k<=9)) (λ(k,u)=>l.length-k) (0,0) ⟨hs0,IN _,J,by decide,by omega⟩ ?_;rintro⟨k,u⟩ w1 ⟨s1,hk,hinv,hvk,hk9⟩;refine .Z J<|.seq<|.a8 J (λ c1=>?_) λ c1=>?_
 ·refine .skip<|.seq<|.block<|.seq ?_;obtain⟨x,hx⟩:∃ x,(l)[k]? =some x:=⟨_,py c1⟩;refine .region<|.ix 1 (hv.ext s1.ext) J<|.le 0 (hv.ext s1.ext) hx J<|.Z J<|.seq<|.seq ?_;have hdk:=oh hx;have hx256:=hb x (a6 hx);have hstep:=hinv;rw[hdk,FL]at hstep;refine .cu 20 ((k=9)/\(1<x)) ?_ ?_
  ·refine .z 3 J<|.B 17 J (λ g1=>?_) λ g1=>?_
   ·refine .M J (by simp[g1])
   refine .M J (by simp[g1])
  refine .a8 J (λ c2=>?_) λ c2=>?_
  ·refine .Z J<|.ret ?_;show aG _ _ _ _ _ _;refine kq J J J J ?_;rw[Ow (by have:=c2;omega)]at hstep;exact⟨by rw[E3,<-hstep]<;>rfl,s1⟩
  refine .skip<|.seq ?_;rcases Rm (k=9/\x=0)with h90|h90
  ·obtain⟨rfl,rfl⟩:=h90;rw[Ow (by decide)]at hstep;refine .region<|.a 2 J (.rem (b:=128) J J (by omega))<|.Z J<|.Z J<|.kz J (OL (by decide))<|.seq<|.h<|.z 3 J<|.Gt 34 J (OL J)<|.Z J<|.kz J (OL (by decide))<|.Z J<|.ret ?_;show aG _ _ _ _ _ _;refine kq J J J J ?_;exact⟨by rw[E3,<-hstep]<;>rfl,s1⟩
  have h9':¬ (k=9/\x≠1):=λ h=>by have:=c2;omega
  rw[OB h9']at hstep;have hor:=K7 (c:=x) hvk hk9 h9';have hbd:=BB (c:=x) hvk;have hsm:=se (c:=x) hk9 h9';have hpk:2^(7*k)<=2^63:=Pz (by decide) (by omega);refine .region<|.a 2 J (.rem (b:=128) J J (by omega))<|.Z J<|.Z J<|.a8 J (λ c3=>?_) λ c3=>?_
  ·refine .seq<|.h<|.z 3 J<|.B 34 J (λ g2=>?_) λ g2=>?_
   ·refine .Z J<|.a8 J (λ c4=>?_) λ c4=>?_
    ·refine .Z J<|.ret ?_;show aG _ _ _ _ _ _;refine kq J J J J ?_;rw[Ow c3,Ow (by omega)]at hstep;exact⟨by rw[E3,<-hstep]<;>rfl,s1⟩
    refine .skip<|.Z J<|.ret ?_;show aG _ _ _ _ _ _;refine kq J J J J ?_;rw[Ow c3,OB (by omega)]at hstep;exact⟨by rw[E3,<-hstep,<-hor]<;>rfl,s1⟩
   refine .Z J<|.az J (J)<|.skip<|.Z J<|.ret ?_;show aG _ _ _ _ _ _;refine kq J J J J ?_;rw[Ow c3,OB (by omega)]at hstep;exact⟨by rw[E3,<-hstep,<-hor]<;>rfl,s1⟩
  refine .skip<|.U J ?_;exact ba (k+1,(u|||((x%128)*2^(7*k)%2^64))) ⟨s1,by omega,by rw[show u|||(x%128*2^(7*k)%2^64)=u+x%2^7*2^(7*k)from hor,<-hstep,OB c3],by rw[show u|||(x%128*2^(7*k)%2^64)=u+x%2^7*2^(7*k)from hor];exact hbd,by rcases OI k 9 with h|h;(omega);exact absurd ⟨(by omega:k=9),(by omega:x≠1)⟩ h9'⟩
 refine .ak<|.Z J<|.ret ?_;show aG _ _ _ _ _ _;refine kq J J J J ?_;rw[show k=l.length by omega,S0,FL]at hinv;exact⟨by rw[E3,<-hinv]<;>rfl,s1⟩
def ic(w0 w:World)(cs:List Chunk)(g:Nat)(v0 bv:Value)(L r:List Nat)(n:Nat)(hs:Sat w0 ([aw g 214 [bv,.bool false],xb v0 (ae .u8) (L)]++cs) w)(hb:∀ w1,RdL w1 v0 (ae .u8) L->RdL w1 bv (ae .u8) (uv n++r))(h8:B8 (uv n++r))(hn:n<=1048576):
  CallsV prog 147 [(.pointer (some ⟨g,0,none⟩))] w λ r' w'=>r'= .int .i64 ((n:Nat):Int)/\∃ bv',(∀ w1,RdL w1 v0 (ae .u8) L->RdL w1 bv' (ae .u8) (r))/\Sat w0 ([aw g 214 [bv',.bool false],xb v0 (ae .u8) (L)]++cs) w':=by
 refine ay func147 J J ?_;refine .Z J<|.h<|.ld 3 hs 0 J<|.cm 0 hs (Jn _ (uv n++r) _ (hb _ (hs.gG 1 J)) (h8)) J λ _ s1=>.Z J ?_;have hn1:=K8 (x:=n) (by omega) r;refine .weaken [(0,_),(2,_),(3,(.int .u64 n)),(4,_),(5,_),(6,_),(7,_),(8,_),(9,_),(10,_),(11,_),(12,_),(13,_),(14,_)] ⟨J,J,If some (show _=Value.int .u64 ((n:Nat):Int)from If (λ q:Nat×Nat×Nat=>Value.int .u64 ((q.1:Nat):Int)) hn1),J,J,J,J,J,J,J,J,J,J,J,trivial⟩<|.weaken [(0,_),(2,_),(3,_),(4,(.int .i64 ((uv (n)).length:Nat))),(5,_),(6,_),(7,_),(8,_),(9,_),(10,_),(11,_),(12,_),(13,_),(14,_)] ⟨J,J,J,If some (show _=Value.int .i64 (((uv (n)).length:Nat):Int)from If (λ q:Nat×Nat×Nat=>Value.int .i64 ((q.2.1:Nat):Int)) hn1),J,J,J,J,J,J,J,J,J,J,trivial⟩<|.weaken [(0,_),(2,_),(3,_),(4,_),(5,(.int .i64 (0:Nat))),(6,_),(7,_),(8,_),(9,_),(10,_),(11,_),(12,_),(13,_),(14,_)] ⟨J,J,J,J,If some (show _=Value.int .i64 ((0:Nat):Int)from If (λ q:Nat×Nat×Nat=>Value.int .i64 ((q.2.2:Nat):Int)) hn1),J,J,J,J,J,J,J,J,J,trivial⟩<|.seq<|.Z J<|.az J (KG (by omega))<|.skip<|.seq<|.h<|.ld 3 s1 0 J<|.nil<|.az J (J)<|.skip<|.h<|.ld 4 s1 0 J<|.a 1 J (.aV (E:=ae .u8) (a:=(uv (n)).length) (c:=(uv n++r).length) cN J (hb _ (s1.gG 1 J)) ⟨_,J⟩ J (by simp) (KP _))<|.st 2 s1 0 J (h1:=(((hb _ (s1.gG 1 J))).sub (a:=(uv (n)).length) (b:=(uv n++r).length) (by simp) (KP _)).a7) λ _ s2 _=>?_;have s2d:=s2.sn;refine .nil<|.Z J<|.aC J J ?_;exact⟨J,_,λ w1 h1=>((hb w1 h1).sub (a:=(uv n).length) (b:=(uv n++r).length) (by simp) (KP _)).re (IQ J J),s2d⟩
def FU(w0 w:World)(cs:List Chunk)(g:Nat)(v0 bv:Value)(L r:List Nat)(m:List Nat)(hs:Sat w0 ([aw g 214 [bv,.bool false],xb v0 (ae .u8) (L)]++cs) w)(hb:∀ w1,RdL w1 v0 (ae .u8) L->RdL w1 bv (ae .u8) (df m++r))(h8:B8 (df m++r))(hm:m.length<=1048576):
  CallsV prog 148 [(.pointer (some ⟨g,0,none⟩))] w λ r' w'=>r'= .string (strOf m)/\∃ bv',(∀ w1,RdL w1 v0 (ae .u8) L->RdL w1 bv' (ae .u8) (r))/\Sat w0 ([aw g 214 [bv',.bool false],xb v0 (ae .u8) (L)]++cs) w':=by
 refine ay func148 J J ?_;refine .Z J<|.h<|.z 1 J ?_;have hre1:df m++r=uv m.length++(m++r):=Nz;have h8_1:=k8 h8 hre1;have A1:=hs.oc [0,1] 2;refine .c 0 (ic _ _ _ _ v0 bv L (m++r) m.length A1 (λ w1 h1=>(hb w1 h1).re hre1) (hre1▸h8) hm) J λ r1 _ h_1=>?_;obtain⟨rfl,bv1,hb1,p1⟩:=h_1;have s1:=p1.join.od [0,1];refine .Z J<|.seq<|.h<|.ld 3 s1 0 J<|.ld 5 s1 0 J<|.ln 0 (hb1 _ (s1.gG 1 J)) J<|.Z J<|.az J (KG (by rw[AT];omega))<|.skip<|.h<|.ld 3 s1 0 J<|.a 1 J (.aV (E:=ae .u8) (a:=0) (c:=m.length) cN J (hb1 _ (s1.gG 1 J)) J ⟨_,J⟩ (IN _) (by rw[AT];omega))<|.e J (.cS underlying43 underlying9 underlying5 J (((hb1 _ (s1.gG 1 J))).sub (a:=0) (b:=m.length) (IN _) (by rw[AT];omega)))<|.Z J<|.h<|.ld 4 s1 0 J<|.a 1 J (.aV (E:=ae .u8) (a:=m.length) (c:=(m++r).length) cN J (hb1 _ (s1.gG 1 J)) ⟨_,J⟩ J (by rw[AT];omega) (KP _))<|.st 2 s1 0 J (h1:=(((hb1 _ (s1.gG 1 J))).sub (a:=m.length) (b:=(m++r).length) (by rw[AT];omega) (KP _)).a7) λ _ s2 _=>?_;have s2d:=s2.sn;refine .nil<|.Z J<|.aC J J ?_;exact⟨If (λ l=>Value.string (strOf l)) (Mh J),_,λ w1 h1=>((hb1 w1 h1).sub (a:=m.length) (b:=(m++r).length) (by rw[AT];omega) (KP _)).re (IQ J J),s2d⟩
def nY(w0 w:World)(cs:List Chunk)(g:Nat)(v0 bv:Value)(L r:List Nat)(a:ByteArray)(hs:Sat w0 ([aw g 214 [bv,.bool false],xb v0 (ae .u8) (L)]++cs) w)(hb:∀ w1,RdL w1 v0 (ae .u8) L->RdL w1 bv (ae .u8) (df (aF a)++r))(h8:B8 (df (aF a)++r))
  (hm:a.size<=1048576):CallsV prog 148 [.pointer (some ⟨g,0,none⟩)] w λ r' w'=>r'= .string a/\∃ bv',(∀ w1,RdL w1 v0 (ae .u8) L->RdL w1 bv' (ae .u8) r)/\Sat w0 ([aw g 214 [bv',.bool false],xb v0 (ae .u8) (L)]++cs) w':=by
 have h:=FU w0 w cs g v0 bv L r (aF a) hs hb h8 (by rw[aj];exact hm);rw[iz]at h;exact h
def LC(w0 w:World)(cs:List Chunk)(g:Nat)(v0 bv:Value)(L r:List Nat)(ps:List Pr)(hs:Sat w0 ([aw g 214 [bv,.bool false],xb v0 (ae .u8) (L)]++cs) w)(hb:∀ w1,RdL w1 v0 (ae .u8) L->RdL w1 bv (ae .u8) (j6 ps++r))(h8:B8 (j6 ps++r))(hm:ps.length<=1048576)(hz:∀ p∈ps,p.1.size<=1048576/\p.2.size<=1048576):
  CallsV prog 151 [(.pointer (some ⟨g,0,none⟩))] w λ r' w'=>∃ bv',(∀ w1,RdL w1 v0 (ae .u8) L->RdL w1 bv' (ae .u8) (r))/\Sat w0 ([aw g 214 [bv',.bool false],xb v0 (ae .u8) (L),cL r' 142 bK ps]++cs) w':=by
 refine ay func151 J J ?_;refine .Z J<|.Z J<|.seq<|.h<|.z 1 J ?_;have hre1:j6 ps++r=uv ps.length++((ps.drop 0).flatMap xf++r):=Hx;have h8_1:=k8 h8 hre1;have A1:=hs.oc [0,1] 2;refine .c 0 (ic _ _ _ _ v0 bv L ((ps.drop 0).flatMap xf++r) ps.length A1 (λ w1 h1=>(hb w1 h1).re hre1) (hre1▸h8) hm) J λ r1 _ h_1=>?_;obtain⟨rfl,bv_1,hb_1,p1⟩:=h_1;have s1:=p1.join.od [0,1];refine .Z J<|.block ?_;have s2:=(s1.ao 142 (bK)).mn;refine .lq [0,2] J (α:=Nat×Value×Value) (λ(k,bv1,pv)=>[(3,pv),(4,(.int .i64 ((ps.length-k):Nat)))]) (λ(k,bv1,pv) w'=>Sat w0 (s2.V [(0,aw g 214 [bv1,(.bool false)]),(2,cL pv 142 (bK) (ps.take k))]++cs) w'/\(∀ w1,RdL w1 v0 (ae .u8) L->RdL w1 bv1 (ae .u8) ((ps.drop k).flatMap xf++r))/\(B8 ((ps.drop k).flatMap xf++r))/\(k<=ps.length)) (λ(k,bv1,pv)=>ps.length-k) (0,bv_1,(.slice none 0 0)) ⟨s2,hb_1,h8_1,IN _⟩ ?_;rintro⟨k,bv1,pv⟩ w2 ⟨s3,hb1,h81,hk⟩;refine .seq<|.seq<|.cu 15 ((0<(ps.length-k))\/(False)) ?_ ?_
 ·refine .z 3 J<|.B 9 J (λ g1=>?_) λ g1=>?_
  ·refine .ld 3 s3 0 J<|.M J (by simp[g1])
  refine .M J (by simp[g1])
 refine .a8 J (λ c1=>?_) λ c1=>?_
 ·refine .skip<|.seq<|.block ?_;have hlt:k<ps.length:=by rcases c1 with h|h;omega;cases h
  obtain⟨p,hp⟩:∃ p,ps[k]? =some p:=⟨_,py hlt⟩;have hpz:=hz p (a6 hp);refine .region<|.z 2 J ?_;have hre2:(ps.drop k).flatMap xf++r=df (aF p.1)++(df (aF p.2)++((ps.drop (k+1)).flatMap xf++r)):=Hw hp;have h8_2:=k8 h81 hre2;have A2:=s3.oc [0,1,2] 2;refine .c 0 (nY _ _ _ _ v0 bv1 L (df (aF p.2)++((ps.drop (k+1)).flatMap xf++r)) p.1 A2 (λ w1 h1=>(hb1 w1 h1).re hre2) (hre2▸h81) hpz.1) J λ r2 _ h_2=>?_;obtain⟨rfl,bv2,hb2,p2⟩:=h_2;have s4:=p2.join.od [0,1,2];refine .z 1 J ?_;have hre3:df (aF p.2)++((ps.drop (k+1)).flatMap xf++r)=df (aF p.2)++((ps.drop (k+1)).flatMap xf++r):=rfl;have h8_3:=k8 h8_2 hre3;have A3:=s4.oc [0,1,2] 2;refine .c 0 (nY _ _ _ _ v0 bv2 L ((ps.drop (k+1)).flatMap xf++r) p.2 A3 (λ w1 h1=>(hb2 w1 h1).re hre3) (hre3▸h8_2) hpz.2) J λ r3 _ h3=>?_;obtain⟨rfl,bv3,hb3,p3⟩:=h3;have s5:=p3.join.od [0,1,2];refine .e J (.build Ai J ⟨J,J,trivial⟩ J)<|.f J (.aO (bK) p wT (by decide) (by decide) s5 J λ v1 _ s6 _=>?_);have s6d:=s6.mn;refine .ap 0 s6d 2 (s6d.aa 3 J) J (h1:=by simp only[M2,KV];omega) (h2:=by simp only[M2,KV];omega) λ v2 _ s7 _=>?_;have s7d:=(s7.sn).pt [0,1,2];refine .Z J<|.U J ?_;have s8:=s7d.pt [0,1,2];have s9:=(s8.bL 2 J (show ps.take k++[p]=ps.take (k+1)from dY hp)).sn;exact⟨(k+1,bv3,v2),⟨J,If (λ z:Nat=>some (Value.int .i64 (z:Int))) (show ps.length-k-1=ps.length-(k+1) by omega),J,J,trivial⟩,⟨s9,hb3,h8_3,by omega⟩,by dsimp only;omega⟩
 refine .ak<|.Z J<|.aC J J ?_;rw[show ps.drop k=[]from P8 (by omega)]at hb1;exact⟨_,hb1,by rw[<-OA (l:=ps) (i:=k) (by omega)];exact s3⟩
def Cg(w0 w:World)(cs:List Chunk)(g:Nat)(v0 bv:Value)(L l:List Nat)(N a k:Nat)(hs:Sat w0 ([aw g 251 [bv,.int .i64 ((N:Nat):Int),.int .i64 ((a:Nat):Int),.bool true],xb v0 (ae .u8) (L)]++cs) w)(hb:∀ w1,RdL w1 v0 (ae .u8) L->RdL w1 bv (ae .u8) l)(h8:B8 l)(hN:N<=8*l.length)(hln:l.length<=1000000000)(hk:k<=32)(hak:a+k<=N):
  CallsV prog 184 [(.pointer (some ⟨g,0,none⟩)),(.int .i64 k)] w λ r' w'=>r'= .int .i64 ((bvN l a k:Nat):Int)/\Sat w0 ([aw g 251 [bv,.int .i64 ((N:Nat):Int),.int .i64 ((a+k:Nat):Int),.bool true],xb v0 (ae .u8) (L)]++cs) w':=by
 refine ay func184 J J ?_;refine .Z J<|.Z J<|.seq<|.block<|.lq [0] J (α:=Nat) (λ j=>[(1,(.int .i64 ((k-j):Nat))),(5,(.int .i64 (bvN l a j)))]) (λ j w'=>Sat w0 (hs.V [(0,aw g 251 [bv,(.int .i64 N),(.int .i64 ((a+j):Nat)),(.bool true)])]++cs) w'/\(j<=k)) (λ j=>k-j) 0 ⟨hs,IN _⟩ ?_;rintro j w_1 ⟨s1,hj⟩;refine .seq<|.Z J<|.a8 J (λ c1=>?_) λ c1=>?_
 ·refine .skip<|.seq<|.block<|.seq<|.seq ?_;have hjk:j<k:=by have:=c1;omega
  obtain⟨x,hx⟩:∃ x,l[(a+j)/8]? =some x:=⟨_,py (by omega)⟩;have hx8:=h8 x (a6 hx);have hbl:=nC l a j;have hpj:2^j<=2^32:=Pz (by decide) (by omega);have hxd:=QD x (2^(7-(a+j)%8));refine .dt [0,1] s1 J (pl [0,1,2,3,4,5,6,7,8] .fin) λ s2 S1=>.ld 3 S1 0 J<|.ld 3 S1 0 J<|.Z S1 J<|.az J (KG (by omega))<|.skip<|.seq<|.dt [0,1] s2 J (pl [0,1,2,3,4,5,6,7,8,9,10,11,12,13,14,15,16,17,18,19,20,21,22,23,24] .fin) λ s3 S2=>.ld 5 S2 0 J<|.ld 3 S2 0 J<|.e J (λ _ s=>.quo (b:=8) J J (by omega) (by unfold bq;omega)) S2<|.ix 0 S2 (λ s=>hb _ (s.gG 1 J)) J<|.le 0 S2 (λ s=>hb _ (s.gG 1 J)) hx J<|.ld 3 S2 0 J<|.e J (λ _ s=>.rem (b:=8) J J (by omega)) S2<|.z 4 S2 J<|.e J (λ _ s=>.MD (b:=1) 1 J J (by decide) (by omega) (by decide)) S2<|.Z S2 J<|.region<|.ld 3 s3 0 J<|.st 3 s3 0 J λ _ s4 _=>?_;have s4d:=s4.sn;refine .nil<|.trim [0,1,5] J<|.U J ?_;exact⟨j+1,⟨If (λ z:Nat=>some (Value.int .i64 (z:Int))) (show k-j-1=k-(j+1) by omega),If (λ z:Nat=>some (Value.int .i64 (z:Int))) (HC hx),J,trivial⟩,⟨s4d,by omega⟩,by omega⟩
 refine .ak<|.Z J<|.aC J J ?_;have e:j=k:=by have:=c1;omega
 subst e;exact⟨J,s1⟩
def LF(l:List Nat)(w:World)(hl:OkP l):
  CallsV prog 150 [(.string (strOf (aq (iJ l))))] w λ r w'=>∃ v,r= .tuple #[v,.bool true]/\Sat w [cL v 3 (ae .i64) l] w':=by
 have hsz:(strOf (aq (iJ l))).size=(iJ l).length+4:=by rw[aI,aX]
 have hB8:B8 (iJ l):=tF l;have hln:=hl.len;have hgl:=nD l 0 hl.lt;have hpn:=mB hl;have hps:((cH 0 l).length+7)/8<=(oA l).length:=by unfold oA;rw[AT,bV];omega
 have hps2:(oA l).length<=40000:=by have:=If List.length (zR l);simp only[AT]at this;omega
 have hs0:=Sat.start w;refine ay func150 J J ?_;refine .Z J<|.seq<|.h<|.a 1 J (.bj underlying9 J)<|.Z J<|.az J (KG (by omega))<|.skip<|.h<|.a 2 J (.bj underlying9 J)<|.a 1 J (.fA (l:=0) (h:=((strOf (aq (iJ l))).size-4)) underlying9 J J ⟨_,J⟩ (by omega) (by omega))<|.f J (.gR underlying9 underlying43 underlying5 hs0 J (by rw[OQ];omega) λ v1 _ s1=>?_);refine .e J (.build Fu J ⟨(s1.gG 0 J).a7,trivial⟩ J)<|.bx 0 s1 J λ b_1 _ s2 _ _=>.Z J ?_;have hb2:∀ w1,RdL w1 v1 (ae .u8) (aF ((strOf (aq (iJ l))).extract 0 ((strOf (aq (iJ l))).size-4)))->RdL w1 v1 (ae .u8) (iJ l):=λ w1 h1=>h1.re (wz.trans (eZ hB8));have h8_1:B8 (iJ l):=hB8;refine .h<|.z 1 J ?_;have hre1:iJ l=uv l.length++(uv (cH 0 l).length++oA l):=zR l;have h8_2:=k8 h8_1 hre1;have A1:=s2.tail.oc [1,0] 2;refine .c 0 (ic _ _ _ _ v1 v1 (aF ((strOf (aq (iJ l))).extract 0 ((strOf (aq (iJ l))).size-4))) (uv (cH 0 l).length++oA l) l.length A1 (λ w1 h1=>(hb2 w1 h1).re hre1) (hre1▸h8_1) (by omega)) J λ r_1 _ h_1=>?_;obtain⟨rfl,bv1,hb3,p1⟩:=h_1;have s3:=(Sat.order [1,0] (by decide) p1.join).ax.nn;refine .z 1 J ?_;have hre2:uv (cH 0 l).length++oA l=uv ((cH 0 l).length)++(oA l):=rfl;have h8_3:=k8 h8_2 hre2;have A2:=s3.tail.oc [1,0] 2;refine .c 0 (ic _ _ _ _ v1 bv1 (aF ((strOf (aq (iJ l))).extract 0 ((strOf (aq (iJ l))).size-4))) (oA l) ((cH 0 l).length) A2 (λ w1 h1=>(hb3 w1 h1).re hre2) (hre2▸h8_2) (by omega)) J λ r2 _ h2=>?_;obtain⟨rfl,bv2,hb4,p2⟩:=h2;have s4:=(Sat.order [1,0] (by decide) p2.join).ax.nn;refine .Z J<|.seq<|.h<|.ld 3 s4 1 J<|.a 3 J (.quo (b:=8) J J (by omega) (by unfold bq;omega))<|.ld 3 s4 1 J<|.ln 0 (hb4 _ (s4.gG 0 J)) J<|.z 3 J<|.Gf 43 J (KG (by omega))<|.Z J<|.az J (KG (by omega))<|.skip<|.h<|.ld 3 s4 1 J<|.a 1 J (.build Mz J ⟨(hb4 _ (s4.gG 0 J)).a7,J,J,trivial⟩ J)<|.bx 0 s4 J λ b_2 _ s5 _ _=>.Z J<|.seq<|.trim [0,2,3,4,5,6,7] J<|.U J<|.Z J<|.seq<|.Z J<|.block ?_;have s6:=s5.ao 3 (ae .i64);have s7:=s6.pk [0,2,3];refine .lq [0,5,6,7] J (α:=Nat×Value) (λ(i,av)=>[(8,(.int .i64 ((((FM l i:Nat):Int)-1)))),(9,av),(10,(.int .i64 i))]) (λ(i,av) w'=>Sat w (s7.U [(1,aw b_2 251 [bv2,(.int .i64 ((cH 0 l).length:Nat)),(.int .i64 (ga l i)),(.bool true)]),(2,cL av 3 (ae .i64) (l.take i))]) w'/\(i<=l.length)) (λ(i,av)=>l.length-i) (0,(.slice none 0 0)) ⟨s7,IN _⟩ ?_;rintro⟨i,av⟩ w6 ⟨s8,hi⟩;refine .seq<|.seq<|.cu 62 ((i<l.length)\/(False)) ?_ ?_
 ·refine .z 4 J<|.B 57 J (λ g1=>?_) λ g1=>?_
  ·refine .ld 3 s8 1 J<|.M J (by simp[g1])
  refine .M J (by simp[g1])
 refine .a8 J (λ c1=>?_) λ c1=>?_
 ·refine .skip<|.seq<|.block<|.seq ?_;have hlt:i<l.length:=by rcases c1 with h|h;exact h;cases h
  obtain⟨q,hq⟩:∃ q,l[i]? =some q:=⟨_,py hlt⟩;have hg:=Ko hl hq;have hq4:=hl.lt q (a6 hq);obtain⟨hg1,hg2,hg3,hg4,hg5⟩:1<=bA l i/\bA l i<=13/\zA l i<=3/\ga l i+(2*zA l i+1)+(bA l i-1)=ga l (i+1)/\ga l (i+1)<=(cH 0 l).length:=⟨hg.b1,hg.b2,hg.z,hg.nx,hg.le⟩;have hgp:=hg.p;have hp1:2^zA l i<=2^13:=Pz (by decide) (by omega);have hp2:2^(bA l i-1)<=2^13:=Pz (by decide) (by omega);have hv1:=nC (oA l) (ga l i+zA l i+1) (zA l i);have hv2:=nC (oA l) (ga l i+zA l i+1+zA l i) (bA l i-1);refine .U J<|.seq<|.block<|.lq [0,5,6,7,8,9,10] J (α:=Nat) (λ z=>[(11,(.int .i64 z))]) (λ z w'=>Sat w (s8.U [(1,aw b_2 251 [bv2,(.int .i64 ((cH 0 l).length:Nat)),(.int .i64 ((ga l i+z):Nat)),(.bool true)])]) w'/\(z<=zA l i)) (λ z=>zA l i-z) 0 ⟨s8,IN _⟩ ?_;rintro z w7 ⟨s9,hz⟩;refine .seq<|.h<|.ld 3 s9 1 J<|.z 5 J<|.Gt 73 J (OL (by omega))<|.z 1 J ?_;have A3:=s9.tail.oc [1,0,2] 2;refine .c 0 (Cg _ _ _ _ v1 bv2 (aF ((strOf (aq (iJ l))).extract 0 ((strOf (aq (iJ l))).size-4))) (oA l) ((cH 0 l).length) (ga l i+z) 1 A3 hb4 h8_3 (by omega) (by omega) (by omega) (by omega)) J λ r3 _ h3=>?_;obtain⟨rfl,p3⟩:=h3;have s10:=(Sat.order [1,0,2] (by decide) p3.join).ax.nn;refine .Z J<|.a8 J (λ c2=>?_) λ c2=>?_
  ·refine .skip<|.block<|.U J ?_;have hzl:z<zA l i:=Nat.lt_of_le_of_ne hz λ e=>by rw[e,EY,hg.r1]at c2;cases c2
   exact ba (z+1) ⟨s10,hzl⟩
  refine .ak<|.seq ?_;have hze:z=zA l i:=Px λ h9=>c2 (by rw[EY];exact hg.r0 z (by omega));subst hze;refine .region<|.a 2 J (.Ib (a:=1) J J (by omega) (by omega))<|.z 2 J ?_;have A4:=s10.tail.oc [1,0,2] 2;refine .c 0 (Cg _ _ _ _ v1 bv2 (aF ((strOf (aq (iJ l))).extract 0 ((strOf (aq (iJ l))).size-4))) (oA l) ((cH 0 l).length) (ga l i+zA l i+1) (zA l i) A4 hb4 h8_3 (by omega) (by omega) (by omega) (by omega)) J λ r4 _ h4=>?_;obtain⟨rfl,p4⟩:=h4;have s11:=(Sat.order [1,0,2] (by decide) p4.join).ax.nn;refine .e J (.Oj J J (by omega) (by omega))<|.Z J<|.weaken [(0,_),(5,_),(6,_),(7,_),(8,_),(9,_),(10,_),(11,_),(12,(.int .i64 (bA l i))),(65,_),(66,_),(67,_),(68,_),(69,_),(70,_),(71,_),(72,_),(73,_),(74,_),(75,_),(76,_),(80,_),(81,_),(82,_),(83,_),(84,_),(85,_),(86,_)] ⟨J,J,J,J,J,J,J,J,If some (If (λ x:Nat=>Value.int .i64 (x:Int)) hg.m),J,J,J,J,J,J,J,J,J,J,J,J,J,J,J,J,J,J,J,trivial⟩<|.seq<|.h<|.ld 3 s11 1 J<|.Z J<|.az J (KG (by omega))<|.skip<|.h<|.a 4 J (.Ib (a:=1) J J (by omega) (by omega))<|.z 3 J ?_;have A5:=s11.tail.oc [1,0,2] 2;refine .c 0 (Cg _ _ _ _ v1 bv2 (aF ((strOf (aq (iJ l))).extract 0 ((strOf (aq (iJ l))).size-4))) (oA l) ((cH 0 l).length) ((ga l i+zA l i+1)+(zA l i)) ((bA l i)-1) A5 hb4 h8_3 (by omega) (by omega) (by omega) (by omega)) J λ r5 _ h5=>?_;obtain⟨rfl,p5⟩:=h5;have s12:=(Sat.order [1,0,2] (by decide) p5.join).ax.nn;refine .e J (.Oj J J (by omega) (by omega))<|.e J (.add J J (by unfold bq;omega))<|.Z J<|.weaken [(0,_),(5,_),(6,_),(7,_),(8,(.int .i64 q)),(9,_),(10,_),(11,_),(12,_),(65,_),(66,_),(67,_),(68,_),(69,_),(70,_),(71,_),(72,_),(73,_),(74,_),(75,_),(76,_),(80,_),(81,_),(82,_),(83,_),(84,_),(85,_),(86,_),(87,_),(88,_),(89,_),(90,_),(91,_),(92,_),(93,_),(94,_),(96,_),(97,_),(98,_),(99,_),(100,_),(101,_),(102,_),(103,_),(104,_),(105,_),(106,_)] ⟨J,J,J,J,If some (If (Value.int .i64) hg.p),J,J,J,J,J,J,J,J,J,J,J,J,J,J,J,J,J,J,J,J,J,J,J,J,J,J,J,J,J,J,J,J,J,J,J,J,J,J,J,J,J,J,trivial⟩<|.seq<|.seq<|.trim [0,5,6,7,8,9,10,11,12] J<|.U J<|.az J (KG (by omega))<|.skip<|.region<|.b 2 J (.cE (ae .i64) q bD J s12 J λ v2 _ s13 _=>?_);refine .ap 0 s13 2 (s13.aa 3 J) J λ v3 _ s14 _=>?_;refine .Z J<|.U J ?_;have s15:=(s14.pk [0,1,2]).pk [0,1,2];have s16:=s15.bL 2 J (show l.take i++[q]=l.take (i+1)from dY hq);have hga:(((ga l i+zA l i+1)+(zA l i))+((bA l i)-1))=ga l (i+1):=by omega
  have s17:=s16.nn;rw[hga]at s17;exact⟨(i+1,v3),⟨If some (If (Value.int .i64) (show(q:Int)=((FM l (i+1):Nat):Int)-1 by rw[qk hq];omega)),J,J,J,J,J,J,trivial⟩,⟨s17,by omega⟩,by dsimp only;omega⟩
 refine .ak<|.seq<|.dk [0,1,2] s8 J (pl [0,1,2,3,4,5,6] .fin) λ s18 S1=>.ld 4 S1 1 J<|.Z S1 J<|.bp J J J ?_;exact⟨_,J,by rw[<-OA (l:=l) (i:=i) (by have:=c1;simp only[OE]at this;omega)];exact(s18.pk [2])⟩
def Ch(p x:ByteArray):bJ p x<=p.size:=by have:=uw p.data.toList x.data.toList;rw[zl]at this;exact this
def Ci(p x:ByteArray):p.extract 0 (bJ p x)++x.extract (bJ p x) x.size=x:=by have:=FT p x;rwa[iz]at this
def Cj{W:List ByteArray}{C:List Nat}{k c:Nat}{x:ByteArray}(hx:W[k]? =some x)(hc:C[k]? =some c):gf (bF W k) (W.drop k) (C.drop k)=uv (bJ (bF W k) x)++(df (aF (x.extract (bJ (bF W k) x) x.size))++(uv (c-1)++gf (bF W (k+1)) (W.drop (k+1)) (C.drop (k+1)))):=by
 have h:=tT (bF W k) x;rw[yA hx hc,gh hx];unfold df;rw[aj,OQ,Nat.min_self];simp only[No]
def LG(W:List ByteArray)(C:List Nat)(w:World)(hCl:C.length=W.length)(hsz:∀ x∈W,x.size<=120)(hC:∀ c∈C,c<=4096)(hn:W.length<=1024):
  CallsV prog 149 [(.string (strOf (aq (cM W C W.length))))] w λ r w'=>∃ v,r= .tuple #[v,.bool true]/\Sat w [cL v 9 ah W] w':=by
 have hel:=fz C hsz W.length (KP _);have hzz:(strOf (aq (cM W C W.length))).size=(cM W C W.length).length+4:=by rw[aI,aX]
 have hB8:B8 (cM W C W.length):=mM W C _;have hs0:=Sat.start w;refine ay func149 J J ?_;refine .Z J<|.seq<|.h<|.a 1 J (.bj underlying9 J)<|.Z J<|.az J (KG (by omega))<|.skip<|.h<|.a 2 J (.bj underlying9 J)<|.a 1 J (.fA (l:=0) (h:=((strOf (aq (cM W C W.length))).size-4)) underlying9 J J ⟨_,J⟩ (by omega) (by omega))<|.f J (.gR underlying9 underlying43 underlying5 hs0 J (by rw[OQ];omega) λ v1 _ s1=>?_);refine .e J (.build Fu J ⟨(s1.gG 0 J).a7,trivial⟩ J)<|.bx 0 s1 J λ b1 _ s2 _ _=>.Z J ?_;have hb2:∀ w1,RdL w1 v1 (ae .u8) (aF ((strOf (aq (cM W C W.length))).extract 0 ((strOf (aq (cM W C W.length))).size-4)))->RdL w1 v1 (ae .u8) (cM W C W.length):=λ w1 h1=>h1.re (wz.trans (eZ hB8));have h8_1:B8 (cM W C W.length):=hB8;refine .Z J<|.Z J<|.seq<|.h<|.z 1 J ?_;have hre1:cM W C W.length=uv W.length++(gf (bF W 0) (W.drop 0) (C.drop 0)):=Cf hCl;have h8_2:=k8 h8_1 hre1;have A1:=s2.tail.oc [1,0] 2;refine .c 0 (ic _ _ _ _ v1 v1 (aF ((strOf (aq (cM W C W.length))).extract 0 ((strOf (aq (cM W C W.length))).size-4))) (gf (bF W 0) (W.drop 0) (C.drop 0)) W.length A1 (λ w1 h1=>(hb2 w1 h1).re hre1) (hre1▸h8_1) (by omega)) J λ r1 _ h_1=>?_;obtain⟨rfl,bv_1,hb3,p1⟩:=h_1;have s3:=(Sat.order [1,0] (by decide) p1.join).ax.nn;refine .Z J<|.block ?_;have s4:=s3.ao 9 (ah);refine .lq [0,4] J (α:=Nat×Value×Value) (λ(k,bv1,wv)=>[(5,wv),(6,(.string (bF W k))),(7,(.int .i64 ((W.length-k):Nat)))]) (λ(k,bv1,wv) w'=>Sat w (s4.U [(1,aw b1 214 [bv1,(.bool false)]),(2,cL wv 9 (ah) (W.take k))]) w'/\(∀ w1,RdL w1 v1 (ae .u8) (aF ((strOf (aq (cM W C W.length))).extract 0 ((strOf (aq (cM W C W.length))).size-4)))->RdL w1 bv1 (ae .u8) (gf (bF W k) (W.drop k) (C.drop k)))/\(B8 (gf (bF W k) (W.drop k) (C.drop k)))/\(k<=W.length)) (λ(k,bv1,wv)=>W.length-k) (0,bv_1,(.slice none 0 0)) ⟨s4,hb3,h8_2,IN _⟩ ?_;rintro⟨k,bv1,wv⟩ w4 ⟨s5,hb1,h81,hk⟩;refine .seq<|.seq<|.cu 30 ((0<(W.length-k))\/(False)) ?_ ?_
 ·refine .z 3 J<|.B 24 J (λ g1=>?_) λ g1=>?_
  ·refine .ld 3 s5 1 J<|.M J (by simp[g1])
  refine .M J (by simp[g1])
 refine .a8 J (λ c1=>?_) λ c1=>?_
 ·refine .skip<|.seq<|.block<|.seq ?_;have hlt:k<W.length:=by rcases c1 with h|h;omega;cases h
  obtain⟨x,hx⟩:∃ x,W[k]? =some x:=⟨_,py hlt⟩;obtain⟨c,hcc⟩:∃ c,C[k]? =some c:=⟨_,py (by omega)⟩;have hxs:=hsz x (a6 hx);have hcb:=hC c (a6 hcc);have hcm:=tT (bF W k) x;have hcm2:=Ch (bF W k) x;refine .region<|.z 1 J ?_;have hre2:gf (bF W k) (W.drop k) (C.drop k)=uv (bJ (bF W k) x)++(df (aF (x.extract (bJ (bF W k) x) x.size))++(uv (c-1)++gf (bF W (k+1)) (W.drop (k+1)) (C.drop (k+1)))):=Cj hx hcc;have h8_3:=k8 h81 hre2;have A2:=s5.tail.oc [1,0,2] 2;refine .c 0 (ic _ _ _ _ v1 bv1 (aF ((strOf (aq (cM W C W.length))).extract 0 ((strOf (aq (cM W C W.length))).size-4))) (df (aF (x.extract (bJ (bF W k) x) x.size))++(uv (c-1)++gf (bF W (k+1)) (W.drop (k+1)) (C.drop (k+1)))) (bJ (bF W k) x) A2 (λ w1 h1=>(hb1 w1 h1).re hre2) (hre2▸h81) (by omega)) J λ r2 _ h_2=>?_;obtain⟨rfl,bv2,hb4,p2⟩:=h_2;have s6:=(Sat.order [1,0,2] (by decide) p2.join).ax.nn;refine .Z J<|.seq<|.h<|.a 2 J (.bj underlying9 J)<|.Z J<|.az J (KG (by omega))<|.skip<|.seq<|.dk [0,2] s6 J (pl [0,1,2,3,1004,5,6] .fin) λ s7 S1=>.z 2 S1 J<|.e J (λ _ q=>.fA (l:=0) (h:=(bJ (bF W k) x)) underlying9 J J ⟨_,J⟩ (IN _) (by omega)) S1<|.z 1 S1 J ?_;have hre3:df (aF (x.extract (bJ (bF W k) x) x.size))++(uv (c-1)++gf (bF W (k+1)) (W.drop (k+1)) (C.drop (k+1)))=df (aF (x.extract (bJ (bF W k) x) x.size))++(uv (c-1)++gf (bF W (k+1)) (W.drop (k+1)) (C.drop (k+1))):=rfl;have h8_4:=k8 h8_3 hre3;have A3:=s7.tail.oc [1,0,2] 2;refine .c 0 S1 (nY _ _ _ _ v1 bv2 (aF ((strOf (aq (cM W C W.length))).extract 0 ((strOf (aq (cM W C W.length))).size-4))) (uv (c-1)++gf (bF W (k+1)) (W.drop (k+1)) (C.drop (k+1))) (x.extract (bJ (bF W k) x) x.size) A3 (λ w1 h1=>(hb4 w1 h1).re hre3) (hre3▸h8_3) (by rw[OQ];omega)) J λ r3 _ h3=>?_;obtain⟨rfl,bv3,hb5,p3⟩:=h3;have s8:=(Sat.order [1,0,2] (by decide) p3.join).ax.nn;have S2:=s8.pk [0,2];refine⟨S2,?_⟩;refine .e J (λ _ q=>.bN J J (by rw[OQ,OQ];omega)) S2<|.Z S2 J<|.weaken [(0,_),(4,_),(5,_),(6,(.string x)),(7,_),(8,_),(33,_),(34,_),(35,_),(36,_),(37,_),(39,_),(40,_),(41,_),(42,_),(43,_),(44,_)] ⟨J,J,J,If some (If Value.string (Ci _ _)),J,J,J,J,J,J,J,J,J,J,J,J,J,trivial⟩<|.h<|.z 1 J ?_;have hre4:uv (c-1)++gf (bF W (k+1)) (W.drop (k+1)) (C.drop (k+1))=uv (c-1)++(gf (bF W (k+1)) (W.drop (k+1)) (C.drop (k+1))):=rfl;have h8_5:=k8 h8_4 hre4;have A4:=s8.tail.oc [1,0,2] 2;refine .c 0 (ic _ _ _ _ v1 bv3 (aF ((strOf (aq (cM W C W.length))).extract 0 ((strOf (aq (cM W C W.length))).size-4))) (gf (bF W (k+1)) (W.drop (k+1)) (C.drop (k+1))) (c-1) A4 (λ w1 h1=>(hb5 w1 h1).re hre4) (hre4▸h8_4) (by omega)) J λ r4 _ h4=>?_;obtain⟨rfl,bv4,hb6,p4⟩:=h4;have s9:=(Sat.order [1,0,2] (by decide) p4.join).ax.nn;refine .nil<|.region<|.b 2 J (.cE (ah) x bo J s9 J λ v2 _ s10 _=>?_);refine .ap 0 s10 2 (s10.aa 3 J) J (h1:=by simp only[M2,KV];omega) (h2:=by simp only[M2,KV];omega) λ v3 _ s11 _=>?_;refine .Z J<|.U J ?_;have s12:=(s11.pk [0,1,2]).pk [0,1,2];have s13:=s12.bL 2 J (show W.take k++[x]=W.take (k+1)from dY hx);exact⟨(k+1,bv4,v3),⟨J,If (λ s=>some (Value.string s)) (gh hx).symm,If (λ z:Nat=>some (Value.int .i64 (z:Int))) (show W.length-k-1=W.length-(k+1) by omega),J,J,trivial⟩,⟨s13,hb6,h8_5,by omega⟩,by dsimp only;omega⟩
 refine .ak<|.seq<|.dk [0,1,2] s5 J (pl [0,1,2,3,4,5,6,7] .fin) λ s14 S3=>.ld 4 S3 1 J<|.Z S3 J<|.bp J J J ?_;exact⟨_,J,by rw[<-OA (l:=W) (i:=k) (by have:=c1;simp only[OE]at this;omega)];exact(s14.pk [2])⟩
def lexB(us:List ByteArray):List Nat:=aq (cM (ab us) (aM us) (ab us).length)
def aP(l:List Nat):List Nat:=aq (qe l (jt l))
def FV(us:List ByteArray):∀ c∈aM us,c<=us.length:=λ c hc=>by
 unfold aM at hc;obtain⟨w,_,rfl⟩:=Ps.1 hc;unfold lh;exact countP_le_length
def xq{us:List ByteArray}(h:us.length<=1024/\(ab us).length<=8):OkN (bH us):=by
 obtain⟨h,h8⟩:=h;have h2:=bW us;refine⟨by unfold bH;rw[OC];omega,λ x hx=>?_⟩;have:=tP x hx;omega
def oY{us:List ByteArray}(h:Mg us):(lexB us).length<=160000:=by
 have h1:=bW us;have h0:=h.1.1;have h2:=fz (W:=ab us) (aM us) (λ x hx=>h.2 x (dX.1 hx)) _ (KP _);unfold lexB;rw[aX];omega
def ux{us:List ByteArray}(h:us.length<=1024/\(ab us).length<=8):(aP (bH us)).length<=2000004:=by
 have:=tX (xq h) (ju (bH us));unfold aP;rw[aX];omega
end Go.Proofs.YtcmldpiicnobnaaGreatDoor
namespace Go.Kw
open Go.RowKit
section
variable {P:Program} {n:Nat} {L:aA} {w w0:World} {cs:List Chunk} {K:Value->World->Prop} {d:Option Nat} {ty:TypeId} {pos:String} {af:Array Edge} {g:Option (Nat×Bool)}
def Chg.freeze(w:World)(a:Addr)(k:Nat):Chg [a.block] w (w.freeze a k):=by
 unfold World.freeze;split
 ·exact⟨J,J,J,KP _,λ _ _ _=>J⟩
 ·refine⟨J,J,J,by simp,λ j hj hn=>?_⟩;have:¬ a.block=j:=λ e=>hn (by simp[e]);simp[QX,this]
def OpE.Ih{x:Operand}{t e:TypeId}{v:Value}{l:List Nat}(i:Nat)(h2:P.underlying t=some (.slice e))(h3:P.underlying e=some (.int .u8))(hs:Sat w0 cs w)(hi:cs[i]? =some (cL v e (ae .u8) l))(hx:aH L x=some v)(hl:0<l.length)
  (hk:∀ w',Sat w0 (cs.set i (xb v (ae .u8) l)) w'->K v w'):OpE P n L w ⟨d,.convert t t x,ty,pos,af,g⟩ K:=by
 obtain⟨hlen,⟨rfl,hn⟩|⟨b,cap,cur,rfl,hb,hh,hnc,hcap,hcs,ht⟩⟩:=h_holds hs hi
 ·omega
 ·have hsh:w.shape? b=some (e,cur.size):=by unfold World.shape?;rw[hh]
  have hw:=Chg.freeze w ⟨b,cur.size,none⟩ 1;have hh2:(w.freeze ⟨b,cur.size,none⟩ 1).heap[b]? =some (.cells cur e (cur.size,cur.size+1)):=by
   unfold World.freeze;rw[OB (by decide)];simp[QX,hh]
  refine .val (v:=.slice (some ⟨b,0,none⟩) l.length cap) (w':=w.freeze ⟨b,cur.size,none⟩ 1) (λ ρ hρ=>?_) (hk _ (hs.set i hi hw ?_ ?_))
  ·simp only[execOp,hρ hx,ON];simp[convert,OH h2,OH h3,markStringish,hsh]
  ·refine⟨_,_,J,hnc,λ j u hu=>⟨b,0,J,?_⟩⟩;rw[Pa,cell_of_heap hh2];rw[<-ht,Pg]at hu;split at hu
   ·simpa using hu
   ·cases hu
  ·intro k hk;exact .inl hk
where h_holds {w0 w:World} {cs:List Chunk} {i e:Nat} {v:Value} {l:List Nat} (hs:Sat w0 cs w) (hi:cs[i]? =some (cL v e (ae .u8) l)):w.ownsRow 0 e 1 v l.length ((ae .u8).all l):=hs.get hi
end
section
variable {P:Program} {n:Nat} {L:aA} {w w0:World} {cs:List Chunk} {d:Option Nat} {ty:TypeId} {x:Operand}
end
end Go.Kw
namespace Go.Proofs.YtcmldpiicnobnaaGreatDoor
open Go.RowKit Go.Kw
def yB(us:List ByteArray):B8 (lexB us):=tN (mM _ _ _)
def yC(l:List Nat):B8 (aP l):=tN (tY (ju l))
def yD{n:Nat}{c:Co}(h:OkC n c)(hn:n<=4){a:Nat}{at_:ByteArray×Bool}(hat:c.at_[a]? =some at_):(nL lexB aP at_ (fU c a)).length<=5000000:=by
 obtain⟨_,hus⟩:=tM h hn (dH hat);have h0:=h.ntk;have h1:=oY hus;have h2:=ux hus.1;have h3:=cU at_.1;have h4:=bG (h.at_.1 a at_ hat).1;have h5:=bW (fU c a);have h6:=mJ c a;have h7:(bH (fU c a)).length<=4096:=by unfold bH;rw[OC];omega
 have h8:=Hm h7 (ab (fU c a)).length;have h9:=aN (if at_.2 then 1 else 0);have h10:=aN (lexB (fU c a)).length;have h11:=aN (aP (bH (fU c a))).length;unfold nL df;simp only[AT];omega
def xu(v:Value)(l:List Nat)(w:World)(hv:RdL w v (ae .i64) l)(hn:l.length<=128)(hb:∀ x∈l,x<=2147483647):
  CallsV prog 217 [v] w λ r w'=>r= .int .i64 ((0:Nat):Int)/\Sat w [] w':=by
 refine bQ func217 J λ hs0=>.Z J<|.seq<|.h<|.ln 1 (hv.ext hs0.ext) J<|.Z J<|.az J (KG (by omega))<|.skip<|.seq<|.h<|.ln 1 (hv.ext hs0.ext) J<|.Z J<|.block<|.lq [8,9] J (α:=Nat) (λ k=>[(10,(.int .i64 k))]) (λ k w'=>Sat w [] w'/\(k<=l.length)) (λ k=>l.length-k) 0 ⟨hs0,IN _⟩ ?_;rintro k w1 ⟨s1,hk⟩;refine .Z J<|.seq<|.a8 J (λ c1=>?_) λ c1=>?_
 ·refine .skip<|.seq<|.block<|.seq ?_;obtain⟨x,hx⟩:∃ x,(l)[k]? =some x:=⟨_,py c1⟩;refine .region<|.ix 0 (hv.ext s1.ext) J<|.le 0 (hv.ext s1.ext) hx J<|.Z J<|.seq<|.cu 19 ((x<0)\/(2147483647<x)) ?_ ?_
  ·refine .z 3 J<|.B 16 J (λ g1=>?_) λ g1=>?_
   ·refine .M J (by simp[g1])
   refine .M J (by simp[g1])
  refine .az J (KG (by have:=hb x (a6 hx);omega))<|.skip<|.U J ?_;exact ba (k+1) ⟨s1,by omega⟩
 refine .ak<|.Z J<|.aC J J ?_;exact⟨J,s1⟩
def n7(v:Value)(l:List Nat)(width:Nat)(w:World)(hv:RdL w v (ae .i64) l)(hn:l.length<=4096)(hb:∀ x∈l,x<2^63)(hw:width<=31):
  CallsV prog 214 [v,(.int .i64 width)] w λ r w'=>Sat w [cL r 5 (ae .u8) (mm width l)] w':=by
 refine bQ func214 J λ hs0=>.Z J<|.Z J<|.Z J<|.Z J<|.seq<|.h<|.ln 1 (hv.ext hs0.ext) J<|.Z J<|.block ?_;have s1:=hs0.ao 4 (iV);have s2:=s1.ao 5 (ae .u8);refine .lq [0,1,12,13] J (α:=Nat×Value×List Bool×Value×List Nat×Nat×Nat) (λ(k,wv,bits,ev,ex,c,b)=>[(5,wv),(6,ev),(7,(.int .i64 c)),(8,(.int .i64 ((((b:Nat):Int)-1)))),(14,(.int .i64 k))]) (λ(k,wv,bits,ev,ex,c,b) w'=>Sat w [cL wv 4 (iV) (bits),cL ev 5 (ae .u8) (ex)] w'/\(k<=l.length)/\(di width (l.take k)=(k,bits,ex,c,b))/\(bits.length<=31*k)/\(ex.length<=20*k)/\(c<=k)/\(b<=k)) (λ(k,wv,bits,ev,ex,c,b)=>l.length-k) (0,(.slice none 0 0),[],(.slice none 0 0),[],0,0) ⟨s2,IN _,J,by simp,by simp,KP _,KP _⟩ ?_;rintro⟨k,wv,bits,ev,ex,c,b⟩ w1 ⟨s3,hk,hst,hbl,hel,hcb,hbb⟩;refine .Z J<|.seq<|.a8 J (λ c1=>?_) λ c1=>?_
 ·refine .skip<|.seq<|.block<|.seq ?_;obtain⟨x,hx⟩:∃ x,(l)[k]? =some x:=⟨_,py c1⟩;refine .region<|.ix 1 (hv.ext s3.ext) J<|.le 0 (hv.ext s3.ext) hx J<|.Z J<|.seq ?_;have hx64:=hb x (a6 hx);have hxd:=QD x (2^width);have h8:=aN (k+1-b);have h9:=aN (x/2^width);refine .region<|.c 4 (lz (x) (width) _ (by omega) (by omega)) J λ r1 _ h_1=>?_;have s4:=s3.au h_1;refine .ap 0 s4 0 (s4.aa 2 J) J (h1:=by(try simp only[AT,aK]);omega) (h2:=by(try simp only[AT,aK]);omega) λ v1 _ s5 _=>.Z J<|.Z J<|.a8 J (λ c2=>?_) λ c2=>?_
  ·refine .Z J<|.h<|.a 3 J (.Aj J J (by omega) (by omega))<|.c 1 (cK ((k+1-b)) _ (by omega)) J λ r2 _ h_2=>?_;have s6:=s5.au h_2;refine .ap 0 s6 1 (s6.aa 3 J) J (h1:=by(try simp only[AT]);omega) (h2:=by(try simp only[AT]);omega) λ v2 _ s7 _=>.c 5 (cK ((x/2^width)) _ (by omega)) J λ r3 _ h_3=>?_;have s8:=(s7.au h_3).nn;refine .ap 0 s8 1 (s8.aa 4 J) J (h1:=by(try simp only[AT]);omega) (h2:=by(try simp only[AT]);omega) λ v3 _ s9 _=>?_;have s9d:Sat w [_,cL v3 5 (ae .u8) (ex++uv ((k+1-b))++uv ((x/2^width))),_,_,cL r3 5 (ae .u8) (uv ((x/2^width)))] _:=s9;refine .Z J<|.U J<|.trim [0,1,5,6,7,8,9,10,12,13,14] J<|.U J ?_;exact⟨(k+1,v1,bits++bZ x width,v3,ex++uv ((k+1-b))++uv ((x/2^width)),(c+1),k+1),⟨J,J,J,If some (If (Value.int .i64) (by omega)),J,J,J,J,J,trivial⟩,⟨s9d.pk [0,1],by omega,by rw[aB hx,gq,hst,iI,Ow (Nat.pos_of_ne_zero c2),pK _ _ _ (KP _)],by simp only[AT,aK];omega,by have h8:=aN (k+1-b);have h9:=aN (x/2^width);(try simp only[AT]);omega,by omega,by omega⟩,by dsimp only;omega⟩
  refine .skip<|.U J ?_;exact ba (k+1,v1,bits++bZ x width,ev,ex,c,b) ⟨s5.pk [0,1],by omega,by rw[aB hx,gq,hst,iI,OB (λ h=>c2 (Nat.ne_of_gt h)),pK _ _ _ (KP _)],by simp only[AT,aK];omega,by have h8:=aN (k+1-b);have h9:=aN (x/2^width);(try simp only[AT]);omega,by omega,by omega⟩
 refine .ak<|.seq ?_;have hpl:=bV bits;have h1:=aN l.length;have h2:=aN width;have h3:=aN c;refine .region<|.ln 1 (hv.ext s3.ext) J<|.c 1 (cK (l.length) _ (by omega)) J λ r4 _ h4=>?_;have s12:=s3.au h4;refine .c 2 (cK (width) _ (by omega)) J λ r5 _ h5=>?_;have s13:=s12.au h5;refine .ap 0 s13 2 (s13.aa 3 J) J (h1:=by(try simp only[AT]);omega) (h2:=by(try simp only[AT]);omega) λ v_4 _ s14 _=>.Z J<|.h<|.c 3 (cK (c) _ (by omega)) J λ r6 _ h6=>?_;have s15:=(s14.au h6).nn;refine .ap 0 s15 2 (s15.aa 4 J) J (h1:=by(try simp only[AT]);omega) (h2:=by(try simp only[AT]);omega) λ v5 _ s16 _=>.c 1 (oS _ (bits) _ (s16.aa 0 J) (by omega)) J λ r7 _ h7=>?_;have s17:=s16.au h7;refine .ap 0 s17 2 (s17.aa 5 J) J (h1:=by(try simp only[AT]);omega) (h2:=by(try simp only[AT]);omega) λ v6 _ s18 _=>?_;have s18d:Sat w [_,_,cL v6 5 (ae .u8) (uv (l.length)++uv (width)++uv (c)++bE (bits)),_,_,cL r7 5 (ae .u8) (bE (bits))] _:=s18;refine .Z J<|.h<|.ap 2 s18d 2 (s18d.aa 1 J) J (h1:=by(try simp only[AT]);omega) (h2:=by(try simp only[AT]);omega) λ v7 _ s19 _=>.Z J<|.aC J J ?_;have s21:=(s19.pk [2]).bL 0 J (show uv (l.length)++uv (width)++uv (c)++bE (bits)++ex=mm width l from by unfold mm;rw[show di width l=(k,bits,ex,c,b) by rw[<-hst,show k=l.length by omega,P7]]);exact s21
def AA(v:Value)(l:List Nat)(w:World)(hv:RdL w v (ae .i64) l)(hn:l.length<=128)(hb:∀ x∈l,x<=2147483647):
  CallsV prog 215 [v] w λ r w'=>r= .int .i64 ((gr l 32:Nat):Int)/\Sat w [] w':=by
 refine bQ func215 J λ hs0=>.seq ?_;have hb63:∀ x∈l,x<2^63:=λ x hx=>by have:=hb x hx;omega
 refine .U J<|.seq<|.h<|.cp 1 hs0 (xu _ (l) _ (hv.ext hs0.ext) (hn) (hb)) J λ _ s1=>.Z J<|.az J (J)<|.skip<|.Z J<|.seq<|.Z J<|.block<|.lq [0] J (α:=Nat×Nat) (λ(m,bw)=>[(3,(.int .i64 bw)),(4,(.int .i64 m))]) (λ(m,bw) w'=>Sat w [] w'/\(1<=m)/\(m<=32)/\(bw=gr l m)/\(bw<=31)) (λ(m,bw)=>32-m) (1,0) ⟨s1,KP _,by omega,by simp[gr],by omega⟩ ?_;rintro⟨m,bw⟩ w2 ⟨s2,hm1,hm,hbw,hbl⟩;refine .seq<|.Z J<|.a8 J (λ c1=>?_) λ c1=>?_
 ·refine .skip<|.seq<|.block<|.h<|.c 2 (n7 _ (l) (m) _ (hv.ext s2.ext) (by omega) (hb63) (by omega)) J λ r2 _ h2=>?_;have s3:=s2.au h2;refine .ln 0 (s3.aa 0 J) J<|.c 2 (n7 _ (l) (bw) _ (hv.ext s3.ext) (by omega) (hb63) (by omega)) J λ r3 _ h3=>?_;have s4:=(s3.au h3).nn;refine .ln 0 (s4.aa 1 J) J<|.Z J<|.a8 J (λ c2=>?_) λ c2=>?_
  ·refine .U J<|.U J ?_;exact ba (m+1,m) ⟨s4.pk [],by omega,by omega,by rw[gr,<-hbw,jO (by omega) (by omega) hb63,jO (by omega) (by omega) hb63,Ow c2],by omega⟩
  refine .skip<|.U J ?_;exact ba (m+1,bw) ⟨s4.pk [],by omega,by omega,by rw[gr,<-hbw,jO (by omega) (by omega) hb63,jO (by omega) (by omega) hb63,OB c2],by omega⟩
 refine .ak<|.Z J<|.aC J J ?_;rw[show m=32 by omega]at hbw;exact⟨by rw[hbw],s2⟩
def AB(v:Value)(l:List Nat)(w:World)(hv:RdL w v (ae .i64) l)(hn:l.length<=128)(hb:∀ x∈l,x<=2147483647):
  CallsV prog 207 [v] w λ r w'=>Sat w [cL r 5 (ae .u8) (gu l)] w':=by
 refine bQ func207 J λ hs0=>.seq ?_;have hb63:∀ x∈l,x<2^63:=λ x hx=>by have:=hb x hx;omega
 refine .U J<|.h<|.cp 2 hs0 (AA _ (l) _ (hv.ext hs0.ext) (hn) (hb)) J λ _ s1=>.c 0 (n7 _ (l) ((gr l 32)) _ (hv.ext s1.ext) (by omega) (hb63) (by have:=pZ l 32;omega)) J λ r2 _ h2=>?_;have s2:=s1.au h2;refine .Z J<|.aC J J ?_;exact s2
end Go.Proofs.YtcmldpiicnobnaaGreatDoor
namespace Go.Kw
def j7{L:List Nat}(h:L.Pairwise (· < ·))(k:Nat):L.filter (λ x=>decide (x<k+1))=L.filter (λ x=>decide (x<k))++(if k∈L then[k]else[]):=by
 induction L with
 |nil=>simp
 |cons a L ih=>
  have hp:=P2.1 h;have ih:=ih hp.2;rcases Qr a k with hk|hk|hk
  ·rw[PT (by simp;omega),PT (by simpa using hk),ih];simp[show¬ k=a by omega]
  ·subst hk;have e:∀ j,j<=a+1->L.filter (λ x=>decide (x<j))=[]:=λ j hj=>PD.2 λ x hx=>by have:=hp.1 x hx;simp;omega
   rw[PT (by simp),Qp (by simp),e _ (KP _),e a (by omega)];simp
  ·have e:∀ j,j<=k+1->L.filter (λ x=>decide (x<j))=[]:=λ j hj=>PD.2 λ x hx=>by have:=hp.1 x hx;simp;omega
   have hn:k∉L:=λ hm=>by have:=hp.1 k hm;omega
   rw[Qp (by simp;omega),Qp (by simp;omega),e _ (KP _),e k (by omega),OB (by simp[hn];omega)];rfl
def Ck(l:List Nat)(n:Nat):(FK l n).Pairwise (· < ·):=by
 have h:=bn (key:=aD l) (cT 0 l) n;have e:FK l n=(cT 0 l).filter λ x=>aD l x==n:=h.symm;rw[e];exact RC filter_sublist (jW l 0)
def yE{l:List Nat}{n k:Nat}(hn:0<n):k∈FK l n↔aD l k=n:=by
 constructor
 ·exact oF
 ·intro h;exact Q4.2 ⟨kv l k (by omega),by simpa using h⟩
def j8(l:List Nat)(n k:Nat):List Nat:=low l n++(FK l n).filter λ x=>decide (x<k)
def AD{l:List Nat}{n k x:Nat}(hn:0<n)(hx:l[k]? =some x)(h:x≠n):j8 l n (k+1)=j8 l n k:=by
 have e:aD l k=x:=by simp[aD,LW,hx]
 rw[j8,j8,j7 (Ck l n),OB (by rw[yE hn,e];exact h),PF]
def rF{l:List Nat}{n k:Nat}(hn:0<n)(hx:l[k]? =some n):j8 l n (k+1)=j8 l n k++[k]:=by
 have e:aD l k=n:=by simp[aD,LW,hx]
 rw[j8,j8,j7 (Ck l n),Ow (by rw[yE hn,e]),No]
def n8(l:List Nat)(n:Nat):j8 l n 0=low l n:=by simp[j8]
def AE(l:List Nat)(n:Nat):j8 l n l.length=j8 l (n+1) 0:=by
 rw[n8,j8,QA.2 λ x hx=>by have:=nt l x (Q4.1 hx).1;simpa using this.1]
 conv=>rhs;rw[low,js l n]
 rw[Qm,Qm,QA.2,QA.2,PD.2,PF]
 ·intro x hx;have:=(Q4.1 hx).2;simp at this⊢;omega
 ·intro x hx;have:=oF hx;simp;omega
 ·intro x hx;have:=(Q4.1 hx).2;simp at this⊢;omega
def xw(l:List Nat):j8 l 1 0=[]:=by
 rw[n8,low];exact PD.2 λ x hx=>by have:=(nt l x hx).2;simp;omega
def AF{l:List Nat}(h:∀ i,aD l i<=15):j8 l 16 0=du l:=by
 rw[n8,low];exact QA.2 λ x _=>by have:=h x;simp;omega
def sP{l cds:List Nat}{lh code bef i:Nat}(h0:lh=0)(h1:code=0):gV l (lh,code,bef,cds) i=(lh+1,0,aD l i,cds.set i 0):=by subst h0 h1;rfl
def uy{l cds:List Nat}{lh code bef i:Nat}(h:lh≠0):gV l (lh,code,bef,cds) i=(lh+1,(code+1)%2^64*2^(aD l i-bef)%2^64,aD l i,cds.set i ((code+1)%2^64*2^(aD l i-bef)%2^64)):=by
 have hp:0<lh:=by omega
 simp only[gV,hp,Qa]
end Go.Kw
namespace Go.Proofs.YtcmldpiicnobnaaGreatDoor
open Go.RowKit Go.Kw
def xx(v:Value)(c:List Nat)(w:World)(hv:RdL w v (ae .i64) c)(hn:c.length<=1024)(hc:∀ x∈c,x<=4096):
  CallsV prog 211 [v,(.int .i64 (15:Nat))] w λ r w'=>r= .int .i64 ((0:Nat):Int)/\Sat w [] w':=by
 refine bQ func211 J λ hs0=>.Z J<|.seq<|.seq<|.cu 13 ((15<1)\/(15<15)) ?_ ?_
 ·refine .M J (by simp[])
 refine .az J (KG (by omega))<|.skip<|.seq<|.h<|.ln 1 (hv.ext hs0.ext) J<|.Z J<|.az J (KG (by omega))<|.skip<|.Z J<|.seq<|.h<|.ln 1 (hv.ext hs0.ext) J<|.Z J<|.block<|.lq [1,17,18] J (α:=Nat×Nat) (λ(k,p)=>[(5,(.int .i64 p)),(19,(.int .i64 k))]) (λ(k,p) w'=>Sat w [] w'/\(k<=c.length)/\(p<=k)) (λ(k,p)=>c.length-k) (0,0) ⟨hs0,IN _,KP _⟩ ?_;rintro⟨k,p⟩ w1 ⟨s1,hk,hp⟩;refine .Z J<|.seq<|.a8 J (λ c1=>?_) λ c1=>?_
 ·refine .skip<|.seq<|.block<|.seq ?_;obtain⟨x,hx⟩:∃ x,(c)[k]? =some x:=⟨_,py c1⟩;refine .region<|.ix 0 (hv.ext s1.ext) J<|.le 0 (hv.ext s1.ext) hx J<|.Z J<|.seq<|.seq<|.cu 28 ((x<0)\/(4096<x)) ?_ ?_
  ·refine .z 3 J<|.B 25 J (λ g1=>?_) λ g1=>?_
   ·refine .M J (by simp[g1])
   refine .M J (by simp[g1])
  refine .az J (KG (by have:=hc x (a6 hx);omega))<|.skip<|.Z J<|.a8 J (λ c2=>?_) λ c2=>?_
  ·refine .U J<|.U J ?_;exact ba (k+1,(p+1)) ⟨s1,by omega,by omega⟩
  refine .skip<|.U J ?_;exact ba (k+1,p) ⟨s1,by omega,by omega⟩
 refine .ak<|.seq<|.h<|.a 3 J (.Ib (a:=1) (b:=15) J J (by omega) (by omega))<|.Z J<|.az J (KG (by omega))<|.skip<|.Z J<|.aC J J ?_;exact⟨J,s1⟩
def AG(v:Value)(l:List Nat)(w:World)(hv:RdL w v (ae .i64) l)(hn:l.length<=1024):
  CallsV prog 216 [v] w λ r w'=>r= .bool (eP l)/\Sat w [] w':=by
 refine bQ func216 J λ hs0=>.Z J<|.seq<|.h<|.ln 1 (hv.ext hs0.ext) J<|.Z J<|.az J (KG (by omega))<|.skip<|.Z J<|.seq<|.h<|.ln 1 (hv.ext hs0.ext) J<|.Z J<|.block<|.lq [9,10] J (α:=Nat×Nat) (λ(k,s)=>[(3,(.int .i64 s)),(11,(.int .i64 k))]) (λ(k,s) w'=>Sat w [] w'/\(k<=l.length)/\(s=iY (l.take k))/\(s<=k*2^14)/\(∀ x∈l.take k,x<=15)) (λ(k,s)=>l.length-k) (0,0) ⟨hs0,IN _,J,IN _,by simp⟩ ?_;rintro⟨k,s⟩ w1 ⟨s1,hk,hsum,hsb,hall⟩;refine .Z J<|.seq<|.a8 J (λ c1=>?_) λ c1=>?_
 ·refine .skip<|.seq<|.block<|.seq ?_;obtain⟨x,hx⟩:∃ x,(l)[k]? =some x:=⟨_,py c1⟩;refine .region<|.ix 0 (hv.ext s1.ext) J<|.le 0 (hv.ext s1.ext) hx J<|.Z J<|.seq<|.seq<|.cu 20 ((x<0)\/(15<x)) ?_ ?_
  ·refine .z 3 J<|.B 17 J (λ g1=>?_) λ g1=>?_
   ·refine .M J (by simp[g1])
   refine .M J (by simp[g1])
  refine .a8 J (λ c2=>?_) λ c2=>?_
  ·refine .Z J<|.aC J J ?_;exact⟨by rw[xS (a6 hx) (by omega)],s1⟩
  refine .skip<|.Z J<|.a8 J (λ c3=>?_) λ c3=>?_
  ·have h2:2^(15-x)<=2^14:=Pz (by decide) (by omega);refine .region<|.a 4 J (.Ib (a:=1) J J (by omega) (by omega))<|.Z J<|.U J ?_;exact ba (k+1,(s+(1*2^(15-x)))) ⟨s1,by omega,by rw[aB hx,jk,<-hsum];simp[iY,kr,c3],by omega,all_take hall hx (by omega)⟩
  refine .skip<|.U J ?_;exact ba (k+1,s) ⟨s1,by omega,by rw[aB hx,jk,<-hsum];simp[iY,kr,c3],by omega,all_take hall hx (by omega)⟩
 refine .ak<|.Z J<|.aC J J ?_;rw[show k=l.length by omega,P7]at hsum hall;exact⟨by rw[Bu hall,hsum],s1⟩
def AH(v:Value)(l:List Nat)(w:World)(hv:RdL w v (ae .i64) l)(hn:l.length<=1024)(hval:eP l=true):
  CallsV prog 213 [v] w λ r w'=>∃ v',r= .tuple #[v',.int .i64 ((0:Nat):Int)]/\Sat w [cL v' 190 (ae .u64) (gW l)] w':=by
 refine bQ func213 J λ hs0=>.seq ?_;have hb:=Bz hval;refine .U J<|.seq<|.h<|.cp 1 hs0 (AG _ (l) _ (hv.ext hs0.ext) (hn)) J λ _ s1=>.e J (.cO J)<|.nil<|.az J (by rw[hval]<;>rfl)<|.skip<|.h<|.ln 1 (hv.ext s1.ext) J<|.f J (.eC (ae .u64) (0) J1 J s1 J J (by omega) (by omega) (by omega) λ v1 _ s2 _=>?_);refine .Z J<|.Z J<|.seq<|.Z J<|.block<|.lq [0,4] J (α:=Nat×Nat×Nat×List Nat×Nat) (λ(n,code0,bef0,cds0,cnt0)=>[(5,(.int .u64 code0)),(6,(.int .i64 bef0)),(7,(.int .i64 n))]) (λ(n,code0,bef0,cds0,cnt0) w'=>Sat w [cL v1 190 (ae .u64) (cds0)] w'/\(1<=n)/\(n<=16)/\(eo l (j8 l n 0)=(cnt0,code0,bef0,cds0))/\(code0<2^64)/\(cds0.length=l.length)/\(bef0<n)/\(bef0=0↔cnt0=0)/\(cnt0=0->code0=0)) (λ(n,code0,bef0,cds0,cnt0)=>16-n) (1,0,0,List.replicate l.length 0,0) ⟨s2,KP _,by omega,by rw[xw]<;>rfl,by omega,by simp,by omega,by omega,λ _=>J⟩ ?_;rintro⟨n,code0,bef0,cds0,cnt0⟩ w3 ⟨s3,h1n,hn16,hst0,hcd0,hcl0,hbn0,h0c0,h0d0⟩;refine .seq<|.Z J<|.a8 J (λ c1=>?_) λ c1=>?_
 ·refine .skip<|.seq<|.block<|.h<|.ln 1 (hv.ext s3.ext) J<|.Z J<|.block<|.lq [0,4,7,20,21] J (α:=Nat×Nat×Nat×List Nat×Nat) (λ(k,code,bef,cds,lh)=>[(5,(.int .u64 code)),(6,(.int .i64 bef)),(22,(.int .i64 k))]) (λ(k,code,bef,cds,lh) w'=>Sat w [cL v1 190 (ae .u64) (cds)] w'/\(k<=l.length)/\(eo l (j8 l n k)=(lh,code,bef,cds))/\(code<2^64)/\(cds.length=l.length)/\(bef<=n)/\(bef=0↔lh=0)/\(lh=0->code=0)) (λ(k,code,bef,cds,lh)=>l.length-k) (0,code0,bef0,cds0,cnt0) ⟨s3,IN _,hst0,hcd0,hcl0,by omega,h0c0,h0d0⟩ ?_;rintro⟨k,code,bef,cds,lh⟩ w4 ⟨s4,hk,hst,hcd,hcl,hbn,h0c,h0d⟩;refine .Z J<|.seq<|.a8 J (λ c2=>?_) λ c2=>?_
  ·refine .skip<|.seq<|.block<|.seq ?_;obtain⟨x,hx⟩:∃ x,(l)[k]? =some x:=⟨_,py c2⟩;refine .region<|.ix 1 (hv.ext s4.ext) J<|.le 0 (hv.ext s4.ext) hx J<|.Z J<|.seq<|.Z J<|.a8 J (λ c3=>?_) λ c3=>?_
   ·refine .ak<|.U J ?_;exact ba (k+1,code,bef,cds,lh) ⟨s4,by omega,by rw[AD h1n hx (by simpa using c3)];exact hst,hcd,hcl,hbn,h0c,h0d⟩
   refine .skip<|.seq<|.seq ?_;have hxn:x=n:=Px λ h=>c3 h;have hlk:aD l k=n:=by simp[aD,LW,hx,hxn]
   refine .U J<|.a8 J (λ c4=>?_) λ c4=>?_
   ·refine .U J<|.region<|.ix 4 (s4.aa 0 J) J<|.f J (.setL (a:=0) 0 Ft s4 J J J J (by omega) λ _ s5 _=>?_);have s5:=s5.nn;refine .Z J<|.U J ?_;exact ba (k+1,0,n,cds.set k 0,lh+1) ⟨s5,by omega,by rw[rF h1n (by rw[hx,hxn]),eQ,hst,sP (h0c.1 c4) (h0d (h0c.1 c4)),hlk],by omega,by simp only[Oz];exact hcl,KP _,by omega,by omega⟩
   refine .region<|.a 1 J (.L5 (b:=1) J J J)<|.Z J<|.region<|.ix 4 (s4.aa 0 J) J<|.f J (.setL (a:=(((code+1)%2^64)*2^(n-bef)%2^64)) 0 Ft s4 J J J J (by omega) λ _ s6 _=>?_);have s6:=s6.nn;refine .Z J<|.U J ?_;exact ba (k+1,(((code+1)%2^64)*2^(n-bef)%2^64),n,cds.set k (((code+1)%2^64)*2^(n-bef)%2^64),lh+1) ⟨s6,by omega,by rw[rF h1n (by rw[hx,hxn]),eQ,hst,uy (λ h=>c4 (h0c.2 h)),hlk],by omega,by simp only[Oz];exact hcl,KP _,by omega,by omega⟩
  refine .ak<|.U J ?_;exact ba (n+1,code,bef,cds,lh) ⟨s4,by omega,by omega,by rw[<-AE,<-hst,show k=l.length by omega],hcd,hcl,by omega,h0c,h0d⟩
 refine .ak<|.Z J<|.bp J J J ?_;have s8:=(s3.pk [0]).bL 0 J (show cds0=gW l from by unfold gW;rw[<-AF (λ i=>rZ hb i),show 16=n by omega,hst0]);exact⟨_,J,s8⟩
def uz(v u:Value)(l syms:List Nat)(w:World)(hv:RdL w v (ae .i64) l)(hu:RdL w u (ae .i64) syms)(hn:l.length<=1024)(hval:eP l=true)(hsn:syms.length<=4096)(hsy:∀ s∈syms,s<l.length/\0<aD l s):
  CallsV prog 206 [v,u] w λ r w'=>∃ v',r= .tuple #[v',.int .i64 ((gn l syms).length:Int),.int .i64 ((0:Nat):Int)]/\Sat w [cL v' 5 (ae .u8) (bE (gn l syms))] w':=by
 refine bQ func206 J λ hs0=>.seq ?_;have hgl:=GoodLens.wZ hval;refine .U J<|.h<|.c 1 (AH _ (l) _ (hv.ext hs0.ext) (hn) (hval)) J λ r1 _ h1=>?_;obtain⟨cv1,rfl,p1⟩:=h1;have s1:=hs0.au p1;refine .Z J<|.seq<|.Z J<|.az J (KG (by omega))<|.skip<|.seq<|.h<|.ln 1 (hu.ext s1.ext) J<|.Z J<|.az J (KG (by omega))<|.skip<|.Z J<|.seq<|.h<|.ln 1 (hu.ext s1.ext) J<|.Z J<|.block ?_;have s2:=s1.ao 4 (iV);refine .lq [0,7,23,24] J (α:=Nat×Value×List Bool) (λ(k,wv,bits)=>[(9,wv),(25,(.int .i64 k))]) (λ(k,wv,bits) w'=>Sat w (s2.U [(1,cL wv 4 (iV) (bits))]) w'/\(k<=syms.length)/\(bits=gn l (syms.take k))/\(bits.length<=15*k)) (λ(k,wv,bits)=>syms.length-k) (0,(.slice none 0 0),[]) ⟨s2,IN _,J,KP _⟩ ?_;rintro⟨k,wv,bits⟩ w2 ⟨s3,hk,hbits,hbl⟩;refine .Z J<|.seq<|.a8 J (λ c1=>?_) λ c1=>?_
 ·refine .skip<|.seq<|.block<|.seq ?_;obtain⟨x,hx⟩:∃ x,(syms)[k]? =some x:=⟨_,py c1⟩;refine .region<|.ix 0 (hu.ext s3.ext) J<|.le 0 (hu.ext s3.ext) hx J<|.Z J<|.seq<|.seq ?_;have hx0:=hsy x (a6 hx);have hlx:=vF hx0.1;have hcdx:=(zb hgl hx0.2).2;have hl15:=hgl.le x;have hp15:2^aD l x<=2^15:=Pz (by decide) hl15;have hcl:=rh l;refine .region<|.z 3 J<|.Gf 31 J (KG (by omega))<|.ln 2 (hv.ext s3.ext) J<|.z 3 J<|.Gf 37 J (KG (by omega))<|.ix 2 (hv.ext s3.ext) J (hj:=hx0.1)<|.le 0 (hv.ext s3.ext) hlx J<|.Z J<|.az J (KG (by omega))<|.skip ?_;have hshp1:=(s3.aa (E:=iV) 1 J).iO (by decide);refine .dk [0] s3 J (pl [0,1,2,3,4,5,6,7,8,1009,1010,11] .fin) λ s4 S1=>.ix 3 S1 (·.aa 0 J) J<|.le 0 S1 (·.aa 0 J) (zb hgl hx0.2).1 J<|.ix 2 S1 (hv.ext ·.ext) J (hj:=hx0.1)<|.le 0 S1 (hv.ext ·.ext) hlx J<|.c 0 S1 (lz ((ny l x)) ((aD l x)) _ (by omega) (by omega)) J λ r2 _ h2=>?_;have s5:=s4.au h2;have S2:=s5.pk [0];refine⟨S2,?_⟩;refine .f J (.ai 1 sI s5 J J J underlying259 (s5.aa 2 J) (by simp only[AT,aK];omega) (by simp only[AT,aK];omega) λ v1 _ s6 _=>?_);have S3:=s6.pk [0];refine⟨S3,?_⟩;refine .Z S3 J<|.U J ?_;exact ba (k+1,v1,bits++bZ (ny l x) (aD l x)) ⟨s6.pk [0,1],by omega,by rw[aB hx,By,hbits],by simp only[AT,aK];omega⟩
 refine .ak<|.h<|.c 1 (oS _ (bits) _ (s3.aa 1 J) (by omega)) J λ r3 _ h3=>?_;have s8:=s3.au h3;refine .ln 1 (s8.aa 1 J) J<|.Z J<|.ret ?_;show aG _ _ _ _ _ _;refine kq J J J J ?_;have hkl:bits=gn l syms:=by rw[hbits,show k=syms.length by omega,P7]
 subst hkl;exact⟨_,J,s8.pk [2]⟩
end Go.Proofs.YtcmldpiicnobnaaGreatDoor
namespace Go.Kw
open Go.RowKit
structure RI where
 w:Nat
 leaf:Bool
 sv:SV
 occ:List Nat
def bc:Enc RI:=⟨3,λ x=>[.int .i64 (x.w:Int),.bool x.leaf,x.sv.val],λ _=>J,λ x u h=>by simp at h;rcases h with rfl|rfl|rfl<;>rfl⟩
def dJ(ps:List RI):Chunk:=iU (ps.map λ p=>cL p.sv.val 3 (ae .i64) p.occ)
section
variable {w0 w:World} {cs:List Chunk}
def Sat.Ij(h:Sat w0 cs w):Sat w0 (cs++[dJ []]) w:=by
 have:Sat w0 (cs++iU []::[]) w:=Sat.fW.2 (by simpa using h);exact this
def Sat.qL{A:List Chunk}{s:SV}{n:Nat}{b:Bool}{l:List Nat}{ps:List RI}(h:Sat w0 (A++[cL s.val 3 (ae .i64) l]) w)(i:Nat)(hi:A[i]? =some (dJ ps)):Sat w0 (A.set i (dJ (ps++[⟨n,b,s,l⟩]))) w:=by
 have:=h.push i hi;rw[dJ,Pw];exact this
def Sat.hY(h:Sat w0 cs w)(i:Nat){ps:List RI}(hi:cs[i]? =some (dJ ps)):∀ p∈ps,RdL w p.sv.val (ae .i64) p.occ:=λ p hp=>
 Rd.nT ((h.get hi).1 (cL p.sv.val 3 (ae .i64) p.occ) (Pj hp))
end
def LH(x y:RI):Bool:=decide (x.w<=y.w)
def fJ(a b:List RI):List RI:=a.merge b LH
def j9{α:Type}{l:List α}{k:Nat}{x:α}(h:l[k]? =some x):l.drop k=x::l.drop (k+1):=by
 obtain⟨hk,rfl⟩:=sp.1 h;exact OZ hk
def AI{a b:List RI}{i k:Nat}{x y:RI}(hx:a[i]? =some x)(hy:b[k]? =some y)(h:x.w<=y.w):fJ (a.drop i) (b.drop k)=x::fJ (a.drop (i+1)) (b.drop k):=by
 have e:LH x y=true:=OL h;rw[fJ,fJ,j9 hx,j9 hy,cons_merge_cons_pos (h:=e)]
def oZ{a b:List RI}{i k:Nat}{y:RI}(hy:b[k]? =some y)(h:∀ x,a[i]? =some x->¬ x.w<=y.w):fJ (a.drop i) (b.drop k)=y::fJ (a.drop i) (b.drop (k+1)):=by
 cases hx:a[i]? with
 |none=>
  have:a.drop i=[]:=P8 (by simpa using hx);rw[this,j9 hy];simp[fJ]
 |some x=>
  have e:¬ LH x y=true:=by have:=h x hx;simp[LH];omega
  rw[fJ,fJ,j9 hx,j9 hy,cons_merge_cons_neg (h:=e)]
def Cl(a:List RI):fJ a []=a:=by simp[fJ]
def Cm{a b:List RI}{x:RI}:x∈fJ a b↔x∈a\/x∈b:=by rw[fJ,(merge_perm_append LH).mem_iff,OM]
end Go.Kw
namespace Go.Proofs.YtcmldpiicnobnaaGreatDoor
open Go.RowKit Go.Kw
def AJ(v u:Value)(a b:List RI)(w:World)(hv:RdL w v bc a)(hu:RdL w u bc b)(hn:a.length<=4096)(hm:b.length<=4096):
  CallsV prog 212 [v,u] w λ r w'=>Sat w [cL r 296 bc (fJ a b)] w':=by
 refine bQ func212 J λ hs0=>.Z J<|.Z J<|.Z J<|.seq<|.h<|.ln 1 (hu.ext hs0.ext) J<|.Z J<|.block ?_;have s1:=hs0.ao 296 (bc);refine .lq [0,9,10] J (α:=Nat×Nat×Value×List RI) (λ(k,i,ov,out)=>[(5,ov),(6,(.int .i64 i)),(11,(.int .i64 k))]) (λ(k,i,ov,out) w'=>Sat w [cL ov 296 (bc) (out)] w'/\(k<=b.length)/\(i<=a.length)/\(out++fJ (a.drop i) (b.drop k)=fJ a b)/\(out.length=i+k)) (λ(k,i,ov,out)=>b.length-k) (0,0,(.slice none 0 0),[]) ⟨s1,IN _,IN _,J,J⟩ ?_;rintro⟨k,i,ov,out⟩ w1 ⟨s2,hk,hi,hout,hol⟩;refine .Z J<|.seq<|.a8 J (λ c1=>?_) λ c1=>?_
 ·refine .skip<|.seq<|.block<|.seq ?_;obtain⟨x,hx⟩:∃ x,(b)[k]? =some x:=⟨_,py c1⟩;refine .region<|.ix 0 (hu.ext s2.ext) J<|.lg 0 (hu.ext s2.ext) hx J<|.al 0 s2 J λ b1 _ s3 _ _=>.sa 0 s3 1 J ((bc).one _) λ _ s4 _=>.nil<|.seq<|.block<|.lq [0,8,9,10,11] J (α:=Nat×Value×List RI) (λ(i,ov,out)=>[(5,ov),(6,(.int .i64 i))]) (λ(i,ov,out) w'=>Sat w (s4.U [(0,cL ov 296 (bc) (out))]) w'/\(i<=a.length)/\(out++fJ (a.drop i) (b.drop k)=fJ a b)/\(out.length=i+k)) (λ(i,ov,out)=>a.length-i) (i,ov,out) ⟨s4,hi,hout,hol⟩ ?_;rintro⟨i,ov,out⟩ w4 ⟨s5,hi,hout,hol⟩;refine .seq<|.seq ?_;rcases OI i a.length with hw|hw
  ·obtain⟨y,hy⟩:∃ y,(a)[i]? =some y:=⟨_,py (hw)⟩;refine .dk [0,1] s5 J (pl [0,1,2,3,4,5,6,7,8,9,10,11,12,13] .fin) λ s6 S1=>.ln 2 S1 (hv.ext ·.ext) J<|.z 2 S1 J<|.Gt 19 J (OL hw)<|.ix 2 S1 (hv.ext ·.ext) J<|.fl 0 S1 (hv.ext ·.ext) J<|.lf 0 S1 (hv.ext ·.ext) hy J<|.ld 1 S1 1 J<|.Z S1 J<|.a8 J (λ c2=>?_) λ c2=>?_
   ·refine .skip<|.block<|.h<|.ix 3 (hv.ext s6.ext) J<|.lg 0 (hv.ext s6.ext) hy J<|.f J (.aO (bc) y dy (by decide) (by decide) s6 J λ v1 _ s7 _=>?_);have s7:=s7.nn;refine .ap 0 s7 0 (s7.aa 2 J) J (h1:=by(try simp only[AT]);simp;omega) (h2:=by(try simp only[AT]);simp;omega) λ v2 _ s8 _=>?_;refine .Z J<|.U J ?_;have s9:=(s8.pk [0,1]).pk [0,1];exact ba (i+1,v2,out++[y]) ⟨s9,by omega,by rw[<-hout,AI hy hx c2];simp,by simp;omega⟩
   refine .ak ?_;have hge:∀ z,a[i]? =some z->¬ z.w<=x.w:=λ z hz=>by rw[hy]at hz;cases hz;exact c2
   refine .region<|.lo 1 s6 1 J<|.f J (.aO (bc) x dy (by decide) (by decide) s6 J λ v3 _ s10 _=>?_);have s10:=s10.nn;refine .ap 0 s10 0 (s10.aa 2 J) J (h1:=by(try simp only[AT]);simp;omega) (h2:=by(try simp only[AT]);simp;omega) λ v_4 _ s11 _=>?_;refine .Z J<|.U J ?_;have s12:=(s11.pk [0,1]).pk [0];exact ba (k+1,i,v_4,out++[x]) ⟨s12,by omega,hi,by rw[<-hout,oZ hx hge];simp,by simp;omega⟩
  refine .dk [0,1] s5 J (pl [0,1,2,3,4,5,6,7,8,9,10,11,12,13] .fin) λ s13 S2=>.ln 2 S2 (hv.ext ·.ext) J<|.z 2 S2 J<|.Gf 19 J (KG (by omega))<|.Z S2 J<|.az J (J)<|.ak ?_;have hge:∀ z,a[i]? =some z->¬ z.w<=x.w:=λ z hz=>by have:=dH hz;omega
  refine .region<|.lo 1 s13 1 J<|.f J (.aO (bc) x dy (by decide) (by decide) s13 J λ v5 _ s14 _=>?_);have s14:=s14.nn;refine .ap 0 s14 0 (s14.aa 2 J) J (h1:=by(try simp only[AT]);simp;omega) (h2:=by(try simp only[AT]);simp;omega) λ v6 _ s15 _=>?_;refine .Z J<|.U J ?_;have s16:=(s15.pk [0,1]).pk [0];exact ba (k+1,i,v6,out++[x]) ⟨s16,by omega,hi,by rw[<-hout,oZ hx hge];simp,by simp;omega⟩
 refine .ak<|.h<|.a 3 J (.aV (E:=bc) (a:=i) (c:=(a).length) dy J (hv.ext s2.ext) ⟨_,J⟩ J (by omega) (KP _))<|.ap 0 s2 0 (((hv.ext s2.ext)).sub (a:=i) (b:=(a).length) (by omega) (KP _)) J λ v7 _ s17 _=>.Z J<|.aC J J ?_;have s19:=(s17.pk [0]).bL 0 J (show out++((a).take ((a).length)).drop i=fJ a b from by rw[<-hout,show k=b.length by omega,S0,Cl];simp);exact s19
