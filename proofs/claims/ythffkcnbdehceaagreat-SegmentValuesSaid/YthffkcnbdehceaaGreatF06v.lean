/-The walks of the functions of F06v,printed by our own program (kwgen.py) out of our descriptions (base.py). -/
import Derived.Test.YthffkcnbdehceaaGreatF42n
import Derived.Test.YthffkcnbdehceaaGreatF01
import Derived.Test.YthffkcnbdehceaaGreatM06
import Derived.Test.YthffkcnbdehceaaGreatM16
set_option linter.all false
set_option maxRecDepth 100000
open List
open Go.Proofs.Tryz
namespace Go.Proofs.YthffkcnbdehceaaGreat
open Go.RowKit Go.Kw
def qt{α:Type}{l:List α}{k:Nat}{x:α}(hx:l[k]? =some x):∃ y,0<k->l[k-1]? =some y:=by
 have h:=(IN.1 hx).1;exact⟨l[k-1]'(by omega),λ _=>py _⟩
def qZ{s:ByteArray}(h:jL s=true):s.size<=120/\dD s=true/\(∀ u∈ec s.data.toList,31<u.r/\u.r≠127)/\∀ c∈s.data.toList,32<=c.toNat/\c.toNat≠127:=by
 unfold jL at h;simp only[RC,Ss,Sy]at h;exact⟨h.1,h.2.1,h.2.2.1,h.2.2.2⟩
def iS(s:ByteArray)(w:World)(hv:jL s=true):
  CallsV prog 176 [(.string s)] w λ r w'=>r= .int .i64 ((0:Nat):Int)/\Sat w [] w':=by
 obtain⟨hz,hvn,hun,-⟩:=qZ hv;have hs0:=Sat.start w;refine ai func176 Y Y ?_;refine .Z Y<|.seq<|.block<|.h<|.a 1 Y (.bA underlying9 Y)<|.Z Y<|.ao Y (AT (by omega))<|.h<|.cp 1 hs0 (iB s _ (by omega)) Y λ _ s1=>.e Y (.cJ Y)<|.Z Y<|.ao Y (by simp[hvn])<|.skip<|.seq<|.h<|.b 1 Y (.tE underlying9 s1 Y λ it1 _ s2=>?_);refine .nil<|.block<|.lq [0,14] Y (α:=Nat) (λ i=>[]) (λ i w'=>Sat w [oR it1 s (i)] w'/\(∀ u∈cY s.data.toList i,31<u.r/\u.r≠127)) (λ i=>s.size-i) 0 ⟨s2,hun⟩ ?_;rintro i w3 ⟨s3,hun⟩;refine .h<|.f Y (.xD (i:=0) s3 Y Y ?_ ?_)
 ·intro hnx1;refine .Z Y<|.seq<|.ao Y (Y)<|.ar<|.Z Y<|.aB Y Y ?_;exact⟨Y,s3.pk []⟩
 intro w4 hnx1 s4;have s4:=s4.nn;refine .Z Y<|.seq<|.eE Y (Y)<|.skip<|.block<|.seq ?_;have hu0:=hun _ (by rw[j8 hnx1];exact SI);dsimp only at hu0;refine .U Y<|.seq<|.bE 23 (((dec (s.data.toList.drop i)).1<=31)\/((dec (s.data.toList.drop i)).1=127)) ?_ ?_
 ·refine .z 3 Y<|.B 20 Y (λ g1=>?_) λ g1=>?_
  ·refine .M Y (by simp[g1])
  refine .M Y (by simp[g1])
 refine .ao Y (AT (by omega))<|.skip ?_;exact⟨i+(dec (s.data.toList.drop i)).2,(wk Y),⟨s4,λ u hu=>hun u (by rw[j8 hnx1];exact Sl _ hu)⟩,(show(s.size-(i+(dec (s.data.toList.drop i)).2))<(s.size-i)from by have:=cy (s.data.toList.drop i);have:=ea hnx1;omega)⟩
def gQ(s:ByteArray)(w:World)(hv:jL s=true):
  CallsV prog 196 [(.string s)] w λ r w'=>r= .int .i64 ((0:Nat):Int)/\Sat w [] w':=by
 obtain⟨hz,hvn,-,hby⟩:=qZ hv;have hs0:=Sat.start w;refine ai func196 Y Y ?_;refine .Z Y<|.seq<|.h<|.a 1 Y (.bA underlying9 Y)<|.Z Y<|.ao Y (AT (by omega))<|.skip<|.seq<|.h<|.cp 1 hs0 (mR s _ (by omega)) Y λ _ s1=>.e Y (.cJ Y)<|.nil<|.ao Y (by simp[hvn])<|.skip<|.seq<|.h<|.b 1 Y (.ox underlying9 underlying45 underlying5 s1 Y (by omega) λ v1 _ s2=>?_);refine .ln 0 (s2.ud 0 Y) Y<|.Z Y<|.block<|.lq [0,12,13] Y (α:=Nat) (λ k=>[(14,(.int .i64 k))]) (λ k w'=>Sat w s2.L w') (λ k=>(cr s).length-k) 0 s2 ?_;rintro k w3 s3;refine .Z Y<|.seq<|.ae Y (λ c1=>?_) λ c1=>?_
 ·refine .skip<|.seq<|.block<|.seq ?_;obtain⟨x,hx⟩:∃ x,(cr s)[k]? =some x:=⟨_,py c1⟩;obtain⟨c,hc,hcx⟩:=Sk.1 (show x∈s.data.toList.map UInt8.toNat from a7 hx);have hxb:=hby c hc;have hsl:=ay s;refine .region<|.ix 0 (s3.ud 0 Y) Y<|.le 0 (s3.ud 0 Y) hx Y<|.Z Y<|.seq<|.bE 23 ((x<32)\/(x=127)) ?_ ?_
  ·refine .z 3 Y<|.B 20 Y (λ g1=>?_) λ g1=>?_
   ·refine .M Y (by simp[g1])
   refine .M Y (by simp[g1])
  refine .ao Y (AT (by omega))<|.skip<|.U Y ?_;exact aR (k+1) s3
 refine .ar<|.Z Y<|.aB Y Y ?_;exact⟨Y,s3.pk []⟩
def FH(s:ByteArray)(a b:Nat):(s.extract a b).data.toList=(s.data.toList.take b).drop a:=by
 rw[Lib.extract_data,drop_take]
def JE{s:ByteArray}(h:s.data.toList[0]? =some 124)(hn:s.size<2):s=ByteArray.mk #[124]:=by
 have e:s.data.toList.length=s.size:=rfl;cases s with
 |mk d=>
  cases d with
  |mk l=>
   match l,h,e with
   |[c],h,_=>simp at h;subst h;rfl
   |c::d::r,_,e=>simp at e;omega
def wq{s:List UInt8}{i:Nat}{b:UInt8}(hb:s[i]? =some b)(h:b.toNat≠124):me s (i+1)=me s i:=by
 rw[me,M2];rintro⟨_,h2⟩;rw[hb]at h2;cases h2;exact h Y
def qu{s:List UInt8}{i:Nat}{b:UInt8}(hi:1<=i)(hb:s[i]? =some b)(h:¬ b.toNat≠124):me s (i+1)=(i+1,(me s i).2++[(s.take i).drop (me s i).1]):=by
 have e:b=124:=Uz.1 (show b.toNat=(124:UInt8).toNat from Sj.1 h);rw[me,No ⟨by omega,by rw[hb,e]⟩]
def FI(s:ByteArray)(w:World)(hset:z8 s):
  CallsV prog 177 [(.string s)] w λ r w'=>∃ v,r= .tuple #[v,.int .i64 ((0:Nat):Int)]/\Sat w [] w':=by
 have hsz0:=iN hset.1;have hsz1:1<=s.size:=(IN.1 hset.2.1).1;have hs0:=Sat.start w;refine ai func177 Y Y ?_;refine .Z Y<|.seq<|.h<|.cp 1 hs0 (iS s _ (hset.1)) Y λ _ s1=>.Z Y<|.Z Y<|.ao Y (Y)<|.skip<|.seq<|.h<|.a 1 Y (.fh Y Y)<|.nil<|.ae Y (λ c1=>?_) λ c1=>?_
 ·refine .Z Y<|.bP Y Y Y ?_;exact⟨_,Y,s1.pk []⟩
 refine .skip<|.seq<|.h<|.a 1 Y (.bA underlying9 Y)<|.z 2 Y<|.Gf 19 Y (AT (λ h=>c1 (JE hset.2.1 h)))<|.a 1 Y (.fg underlying9 Y Y hset.2.1)<|.z 3 Y<|.Gf 24 Y (AT (λ h=>h Y))<|.a 2 Y (.bA underlying9 Y)<|.a 1 Y (.fg underlying9 Y Y hset.2.2.1)<|.Z Y<|.ao Y (AT (λ h=>h Y))<|.skip<|.Z Y<|.seq<|.Z Y<|.block ?_;have s3:=s1.az 9 (au);refine .lp [0,4] Y (α:=Nat×Value×List ByteArray) (λ(i,ov,L)=>[(5,ov),(6,(.int .i64 ((me s.data.toList i).1:Nat))),(7,(.int .i64 i))]) (λ(i,ov,L) w'=>Sat w [cL ov 9 (au) (L)] w'/\(1<=i)/\(L.map (·.data.toList)=(me s.data.toList i).2)/\(i<=s.size)/\(L.length<=i)) (λ(i,ov,L)=>s.size-i) (1,(.slice none 0 0),[]) ⟨Y,If some (If (Value.int .i64) (by simp[me])),Y,Y,Y,trivial⟩ ⟨s3,KD _,by simp[me],hsz1,KB _⟩ ?_;rintro⟨i,ov,L⟩ w2 ⟨s4,hi,hL,hle,hLl⟩;refine .seq<|.h<|.a 2 Y (.bA underlying9 Y)<|.Z Y<|.ae Y (λ c2=>?_) λ c2=>?_
 ·refine .skip<|.seq<|.block<|.seq<|.seq ?_;obtain⟨b,hb⟩:∃ b,s.data.toList[i]? =some b:=⟨_,py (show i<s.data.toList.length from c2)⟩;refine .region<|.a 2 Y (.fg underlying9 Y Y hb)<|.Z Y<|.ae Y (λ c3=>?_) λ c3=>?_
  ·refine .ar<|.U Y ?_;exact⟨(i+1,ov,L),⟨Y,If (λ q:Nat×List (List UInt8)=>some (Value.int .i64 (q.1:Int))) (wq hb c3).symm,Y,Y,Y,trivial⟩,⟨s4,by omega,by rw[wq hb c3];exact hL,by omega,by omega⟩,by dsimp only;omega⟩
  refine .skip<|.seq<|.seq ?_;have hfl:=Bs s.data.toList i;have hbb:=c3;refine .U Y<|.ao Y (AT (λ h=>hset.2.2.2.1 i hi (by rw[hb,show b=124 from Uz.1 (Sj.1 hbb)]) h.symm))<|.skip<|.h<|.a 4 Y (.fZ (l:=(me s.data.toList i).1) (h:=i) underlying9 Y ⟨_,Y⟩ ⟨_,Y⟩ (by omega) (by omega))<|.f Y (.bO (au) (s.extract ((me s.data.toList i).1) i) bL Y s4 Y λ v1 _ s5 _=>?_);refine .ap 0 s5 0 (s5.ah 1 Y) Y λ v2 _ s6 _=>?_;refine .Z Y<|.U Y<|.U Y ?_;exact⟨(i+1,v2,L++[(s.extract ((me s.data.toList i).1) i)]),⟨Y,If (λ q:Nat×List (List UInt8)=>some (Value.int .i64 (q.1:Int))) (qu hi hb c3).symm,Y,Y,Y,trivial⟩,⟨s6.pk [0],by omega,by rw[qu hi hb c3,Si,hL];exact If _ (If (λ q=>[q]) (FH s _ i)),by omega,by rw[sp];simp only[KM];omega⟩,by dsimp only;omega⟩
 refine .ar<|.seq<|.seq ?_;have hLz:L.map (·.data.toList)=(me s.data.toList s.size).2:=by rw[show s.size=i by omega];exact hL
 refine .U Y<|.block<|.lq [0,4,5,6,7] Y (α:=Nat) (λ j=>[(8,(.int .i64 j))]) (λ j w'=>Sat w s4.L w'/\(1<=j)) (λ j=>L.length-j) 1 ⟨s4,KD _⟩ ?_;rintro j w5 ⟨s7,hj⟩;refine .seq<|.h<|.ln 2 (s7.ah 0 Y) Y<|.Z Y<|.ae Y (λ c4=>?_) λ c4=>?_
 ·refine .skip<|.seq<|.block<|.seq ?_;obtain⟨y,hy⟩:∃ y,L[j-1]? =some y:=⟨_,py (by omega)⟩;obtain⟨x,hx⟩:∃ x,L[j]? =some x:=⟨_,py c4⟩;have hlt:SLt y x:=hset.2.2.2.2 (j-1) y.data.toList x.data.toList (by rw[<-hLz,Rz,hy]<;>rfl) (by rw[<-hLz,Rz,show j-1+1=j by omega,hx]<;>rfl);refine .dk [0] s7 Y (pl [0,1,2,3,4,5,6,7,8,9] .fin) λ s8 S1=>.ix 3 S1 (·.ah 0 Y) Y<|.le 0 S1 (·.ah 0 Y) hy Y<|.ix 2 S1 (·.ah 0 Y) Y<|.le 0 S1 (·.ah 0 Y) hx Y<|.e Y (λ _ hS=>.pN Y Y) S1<|.fin<|.ao Y (AT (λ h=>h hlt))<|.skip<|.U Y ?_;exact aR (j+1) ⟨s8,by omega⟩
 refine .ar<|.Z Y<|.bP Y Y Y ?_;exact⟨_,Y,s7.pk []⟩
def AA(s:ByteArray)(w:World)(hset:z8 s):
  CallsV prog 195 [(.string s)] w λ r w'=>∃ v,r= .tuple #[v,.int .i64 ((0:Nat):Int)]/\Sat w [] w':=by
 have hsz0:=iN hset.1;have hsz1:1<=s.size:=(IN.1 hset.2.1).1;have hs0:=Sat.start w;refine ai func195 Y Y ?_;refine .Z Y<|.seq<|.h<|.cp 1 hs0 (gQ s _ (hset.1)) Y λ _ s1=>.Z Y<|.Z Y<|.ao Y (Y)<|.skip<|.h<|.a 1 Y (.bA underlying9 Y)<|.Z Y<|.seq<|.h<|.z 3 Y<|.Gf 19 Y (AT (by omega))<|.a 1 Y (.fg underlying9 Y Y hset.2.1)<|.z 3 Y<|.Gf 24 Y (AT (λ h=>h Y))<|.a 3 Y (.fg underlying9 Y Y hset.2.2.1)<|.Z Y<|.ao Y (AT (λ h=>h Y))<|.skip<|.Z Y<|.Z Y<|.seq<|.Z Y<|.block ?_;have s2:=s1.az 9 (au);refine .lp [0,4,5] Y (α:=Nat×Value×List ByteArray) (λ(i,ov,L)=>[(6,ov),(7,(.int .i64 ((me s.data.toList i).1:Nat))),(8,(.int .i64 i))]) (λ(i,ov,L) w'=>Sat w [cL ov 9 (au) (L)] w'/\(1<=i)/\(L.map (·.data.toList)=(me s.data.toList i).2)/\(i<=s.size)/\(L.length<=i)) (λ(i,ov,L)=>s.size-i) (1,(.slice none 0 0),[]) ⟨Y,If some (If (Value.int .i64) (by simp[me])),Y,Y,Y,Y,trivial⟩ ⟨s2,KD _,by simp[me],hsz1,KB _⟩ ?_;rintro⟨i,ov,L⟩ w2 ⟨s3,hi,hL,hle,hLl⟩;refine .seq<|.Z Y<|.ae Y (λ c1=>?_) λ c1=>?_
 ·refine .skip<|.seq<|.block<|.seq<|.seq ?_;obtain⟨b,hb⟩:∃ b,s.data.toList[i]? =some b:=⟨_,py (show i<s.data.toList.length from c1)⟩;refine .region<|.a 2 Y (.fg underlying9 Y Y hb)<|.Z Y<|.ae Y (λ c2=>?_) λ c2=>?_
  ·refine .ar<|.U Y ?_;exact⟨(i+1,ov,L),⟨Y,If (λ q:Nat×List (List UInt8)=>some (Value.int .i64 (q.1:Int))) (wq hb c2).symm,Y,Y,Y,Y,trivial⟩,⟨s3,by omega,by rw[wq hb c2];exact hL,by omega,by omega⟩,by dsimp only;omega⟩
  refine .skip<|.seq<|.seq ?_;have hfl:=Bs s.data.toList i;have hbb:=c2;refine .U Y<|.ao Y (AT (λ h=>hset.2.2.2.1 i hi (by rw[hb,show b=124 from Uz.1 (Sj.1 hbb)]) h.symm))<|.skip<|.h<|.a 4 Y (.fZ (l:=(me s.data.toList i).1) (h:=i) underlying9 Y ⟨_,Y⟩ ⟨_,Y⟩ (by omega) (by omega))<|.f Y (.bO (au) (s.extract ((me s.data.toList i).1) i) bL Y s3 Y λ v1 _ s4 _=>?_);refine .ap 0 s4 0 (s4.ah 1 Y) Y λ v2 _ s5 _=>?_;refine .Z Y<|.U Y<|.U Y ?_;exact⟨(i+1,v2,L++[(s.extract ((me s.data.toList i).1) i)]),⟨Y,If (λ q:Nat×List (List UInt8)=>some (Value.int .i64 (q.1:Int))) (qu hi hb c2).symm,Y,Y,Y,Y,trivial⟩,⟨s5.pk [0],by omega,by rw[qu hi hb c2,Si,hL];exact If _ (If (λ q=>[q]) (FH s _ i)),by omega,by rw[sp];simp only[KM];omega⟩,by dsimp only;omega⟩
 refine .ar<|.seq<|.seq ?_;have hLz:L.map (·.data.toList)=(me s.data.toList s.size).2:=by rw[show s.size=i by omega];exact hL
 refine .U Y<|.block<|.lq [0,4,5,6,7,8] Y (α:=Nat) (λ j=>[(9,(.int .i64 j))]) (λ j w'=>Sat w s3.L w'/\(1<=j)) (λ j=>L.length-j) 1 ⟨s3,KD _⟩ ?_;rintro j w5 ⟨s6,hj⟩;refine .seq<|.h<|.ln 2 (s6.ah 0 Y) Y<|.Z Y<|.ae Y (λ c3=>?_) λ c3=>?_
 ·refine .skip<|.seq<|.block<|.seq ?_;obtain⟨y,hy⟩:∃ y,L[j-1]? =some y:=⟨_,py (by omega)⟩;obtain⟨x,hx⟩:∃ x,L[j]? =some x:=⟨_,py c3⟩;have hlt:SLt y x:=hset.2.2.2.2 (j-1) y.data.toList x.data.toList (by rw[<-hLz,Rz,hy]<;>rfl) (by rw[<-hLz,Rz,show j-1+1=j by omega,hx]<;>rfl);refine .dk [0] s6 Y (pl [0,1,2,3,4,5,6,7,8,9] .fin) λ s7 S1=>.ix 3 S1 (·.ah 0 Y) Y<|.le 0 S1 (·.ah 0 Y) hy Y<|.ix 2 S1 (·.ah 0 Y) Y<|.le 0 S1 (·.ah 0 Y) hx Y<|.e Y (λ _ hS=>.pN Y Y) S1<|.fin<|.ao Y (AT (λ h=>h hlt))<|.skip<|.U Y ?_;exact aR (j+1) ⟨s7,by omega⟩
 refine .ar<|.Z Y<|.bP Y Y Y ?_;exact⟨_,Y,s6.pk []⟩
def DJ(a:ByteArray×Bool)(v:ByteArray)(w:World)(h:okV a v):
  CallsV prog 113 [((cP).ag a),(.string v)] w λ r w'=>r= .int .i64 ((0:Nat):Int)/\Sat w [] w':=by
 refine bY func113 Y λ hs0=>.h<|.bx 0 hs0 Y λ b1 _ s1 _ _=>.Z Y<|.seq<|.h<|.ld 1 s1 0 Y<|.e Y (.cJ Y)<|.nil<|.cond Y (λ c1=>?_) (λ c1=>?_)
 ·refine .h<|.cp 1 s1 (iS v _ (h.val)) Y λ _ s2=>.Z Y<|.aB Y Y ?_;exact⟨Y,s2.pk []⟩
 refine .skip<|.h<|.c 1 (FI v _ (h.2 (by simpa using c1))) Y λ r2 _ h2=>?_;obtain⟨pv1,rfl,p2⟩:=h2;have s4:=s1.ax p2;refine .Z Y<|.Z Y<|.aB Y Y ?_;exact⟨Y,s4.pk []⟩
def AB(a:ByteArray×Bool)(v:ByteArray)(w:World)(h:okV a v):
  CallsV prog 135 [((cP).ag a),(.string v)] w λ r w'=>r= .int .i64 ((0:Nat):Int)/\Sat w [] w':=by
 refine bY func135 Y λ hs0=>.h<|.bx 0 hs0 Y λ b1 _ s1 _ _=>.Z Y<|.seq<|.h<|.ld 1 s1 0 Y<|.nil<|.cond Y (λ c1=>?_) (λ c1=>?_)
 ·refine .h<|.c 1 (AA v _ (h.2 (by simpa using c1))) Y λ r1 _ h1=>?_;obtain⟨pv1,rfl,p1⟩:=h1;have s2:=s1.ax p1;refine .Z Y<|.Z Y<|.aB Y Y ?_;exact⟨Y,s2.pk []⟩
 refine .skip<|.h<|.cp 1 s1 (gQ v _ (h.val)) Y λ _ s4=>.Z Y<|.aB Y Y ?_;exact⟨Y,s4.pk []⟩
def pR(v:Value)(l:List Pr)(w:World)(hv:RdL w v aU l)(h:okPs l):
  CallsV prog 115 [v] w λ r w'=>r= .int .i64 ((0:Nat):Int)/\Sat w [] w':=by
 refine bY func115 Y λ hs0=>.Z Y<|.seq<|.seq ?_;have hl8:=h.1;refine .region<|.ln 1 (hv.ext hs0.ext) Y<|.Z Y<|.ao Y (AT (by have:=h.1;omega))<|.skip<|.seq<|.h<|.ln 1 (hv.ext hs0.ext) Y<|.Z Y<|.block<|.lq [0,9,10] Y (α:=Nat) (λ k=>[(11,(.int .i64 k))]) (λ k w'=>Sat w [] w') (λ k=>l.length-k) 0 hs0 ?_;rintro k w1 s1;refine .Z Y<|.seq<|.ae Y (λ c1=>?_) λ c1=>?_
 ·refine .skip<|.seq<|.block<|.seq ?_;obtain⟨x,hx⟩:∃ x,(l)[k]? =some x:=⟨_,py c1⟩;have hxo:=h.2.1 x (a7 hx);refine .region<|.ix 1 (hv.ext s1.ext) Y<|.lg 0 (hv.ext s1.ext) hx Y<|.al 0 s1 Y λ b1 _ s2 _ _=>.sa 1 s2 0 Y ((aU).one _) λ _ s3 _=>.nil<|.seq<|.block<|.h<|.ld 1 s3 0 Y<|.cq 0 s3 (dW x.1 _) Y λ _ s4=>.e Y (.cJ Y)<|.Z Y<|.ao Y (by simp[hxo.1])<|.seq ?_;obtain⟨y,hy⟩:=qt hx;refine .md [0,3,4,9,10,11] Y (λ K L' w'=>Weak ([(21,(.bool (decide ((0<k)/\(¬ SLt y.1 x.1)))))]++K) L'/\Sat w s4.L w') ?_ ?_
  ·refine .dk [0] s4 Y (pl [0,1,2,3,4,5,6,7,8,9,10,11,12,13] .fin) λ s5 S1=>.z 3 S1 Y<|.B 24 Y (λ g1=>?_) λ g1=>?_
   ·refine .ix 3 S1 (hv.ext ·.ext) Y<|.fl 0 S1 (hv.ext ·.ext) Y<|.lf 0 S1 (hv.ext ·.ext) (hy (by omega)) Y<|.ld 1 S1 0 Y<|.a 0 S1 Y (λ _ s=>.pN Y Y)<|.Z S1 Y ?_;exact⟨⟨If some (If Value.bool (by simp[g1])),Y,Y,Y,Y,Y,Y,trivial⟩,s5⟩
   refine .Z S1 Y ?_;exact⟨⟨If some (If Value.bool (by simp[g1])),Y,Y,Y,Y,Y,Y,trivial⟩,s5⟩
  rintro L' w5 ⟨hw1,s6⟩;refine .weaken _ hw1<|.ao Y (AT (λ h9=>h9.2 (h.2.2 (k-1) y x (hy h9.1) (by rw[show k-1+1=k by omega];exact hx))))<|.skip<|.h<|.ld 1 s6 0 Y<|.cp 0 s6 (iS x.2 _ (hxo.2)) Y λ _ s7=>.Z Y<|.Z Y<|.ao Y (Y)<|.skip<|.U Y ?_;exact aR (k+1) (s7.pk [])
 refine .ar<|.Z Y<|.aB Y Y ?_;exact⟨Y,s1.pk []⟩
def uk(v:Value)(l:List Pr)(w:World)(hv:RdL w v aU l)(h:okPs l):
  CallsV prog 136 [v] w λ r w'=>r= .int .i64 ((0:Nat):Int)/\Sat w [] w':=by
 refine bY func136 Y λ hs0=>.Z Y<|.seq<|.seq ?_;have hl8:=h.1;refine .region<|.ln 1 (hv.ext hs0.ext) Y<|.Z Y<|.ao Y (AT (by have:=h.1;omega))<|.skip<|.seq<|.h<|.ln 1 (hv.ext hs0.ext) Y<|.Z Y<|.block<|.lq [0,9,10] Y (α:=Nat) (λ k=>[(11,(.int .i64 k))]) (λ k w'=>Sat w [] w') (λ k=>l.length-k) 0 hs0 ?_;rintro k w1 s1;refine .Z Y<|.seq<|.ae Y (λ c1=>?_) λ c1=>?_
 ·refine .skip<|.seq<|.block<|.seq ?_;obtain⟨x,hx⟩:∃ x,(l)[k]? =some x:=⟨_,py c1⟩;have hxo:=h.2.1 x (a7 hx);refine .region<|.ix 1 (hv.ext s1.ext) Y<|.lg 0 (hv.ext s1.ext) hx Y<|.al 0 s1 Y λ b1 _ s2 _ _=>.sa 1 s2 0 Y ((aU).one _) λ _ s3 _=>.nil<|.seq<|.block<|.h<|.ld 1 s3 0 Y<|.cq 0 s3 (e9 x.1 _) Y λ _ s4=>.e Y (.cJ Y)<|.Z Y<|.ao Y (by simp[hxo.1])<|.seq ?_;obtain⟨y,hy⟩:=qt hx;refine .md [0,3,4,9,10,11] Y (λ K L' w'=>Weak ([(21,(.bool (decide ((0<k)/\(¬ SLt y.1 x.1)))))]++K) L'/\Sat w s4.L w') ?_ ?_
  ·refine .dk [0] s4 Y (pl [0,1,2,3,4,5,6,7,8,9,10,11,12,13] .fin) λ s5 S1=>.z 3 S1 Y<|.B 24 Y (λ g1=>?_) λ g1=>?_
   ·refine .ix 3 S1 (hv.ext ·.ext) Y<|.fl 0 S1 (hv.ext ·.ext) Y<|.lf 0 S1 (hv.ext ·.ext) (hy (by omega)) Y<|.ld 1 S1 0 Y<|.a 0 S1 Y (λ _ s=>.pN Y Y)<|.Z S1 Y ?_;exact⟨⟨If some (If Value.bool (by simp[g1])),Y,Y,Y,Y,Y,Y,trivial⟩,s5⟩
   refine .Z S1 Y ?_;exact⟨⟨If some (If Value.bool (by simp[g1])),Y,Y,Y,Y,Y,Y,trivial⟩,s5⟩
  rintro L' w5 ⟨hw1,s6⟩;refine .weaken _ hw1<|.ao Y (AT (λ h9=>h9.2 (h.2.2 (k-1) y x (hy h9.1) (by rw[show k-1+1=k by omega];exact hx))))<|.skip<|.h<|.ld 1 s6 0 Y<|.cp 0 s6 (gQ x.2 _ (hxo.2)) Y λ _ s7=>.Z Y<|.Z Y<|.ao Y (Y)<|.skip<|.U Y ?_;exact aR (k+1) (s7.pk [])
 refine .ar<|.Z Y<|.aB Y Y ?_;exact⟨Y,s1.pk []⟩
def gL{a b:List Pr}{k:Nat}{p q:Pr}(hp:a[k]? =some p)(hq:b[k]? =some q):jM (a.drop k) (b.drop k)=if eG p.1 q.1≠0 then eG p.1 q.1 else if eG p.2 q.2≠0 then eG p.2 q.2 else jM (a.drop (k+1)) (b.drop (k+1)):=by
 obtain⟨h1,rfl⟩:=IN.1 hp;obtain⟨h2,rfl⟩:=IN.1 hq;rw[SP h1,SP h2,jM]
def re{a b:List Pr}{k:Nat}(h1:k<=a.length)(h2:k<=b.length)(h:¬ (k<a.length/\k<b.length)):jM (a.drop k) (b.drop k)=ed (a.length:Int) (b.length:Int):=by
 unfold ed;rcases RG k a.length with q|q
 ·have e:k=b.length:=by omega
  rw[SP q,show b.drop k=[]from SF (by omega),jM,M2 (by omega),No (by omega)]
 rw[SF q];rcases RG k b.length with q2|q2
 ·rw[SP q2,jM,No (by omega)]
 rw[SF q2,jM,M2 (by omega),M2 (by omega)]
def wu{a b:ByteArray}(h:a≠b):eG a b≠0:=λ h9=>h (ES h9)
def wx(a b:Int)(w:World):
  CallsV prog 178 [(.int .i64 (a)),(.int .i64 (b))] w λ r w'=>r= .int .i64 (ed a b)/\Sat w [] w':=by
 refine bY func178 Y λ hs0=>.Z Y<|.seq<|.block<|.h<|.a 2 Y (.lss Y Y)<|.Z Y<|.ae Y (λ c1=>?_) λ c1=>?_
 ·refine .Z Y<|.aB Y Y ?_;exact⟨by unfold ed;rw[No c1],hs0.pk []⟩
 refine .h<|.a 2 Y (.gtr Y Y)<|.Z Y<|.ae Y (λ c2=>?_) λ c2=>?_
 ·refine .Z Y<|.aB Y Y ?_;exact⟨by unfold ed;rw[M2 c1,No c2]<;>rfl,hs0.pk []⟩
 refine .skip<|.Z Y<|.aB Y Y ?_;exact⟨by unfold ed;rw[M2 c1,M2 c2]<;>rfl,hs0.pk []⟩
def wy(a b:ByteArray)(w:World):
  CallsV prog 179 [(.string a),(.string b)] w λ r w'=>r= .int .i64 (eG a b)/\Sat w [] w':=by
 refine bY func179 Y λ hs0=>.Z Y<|.seq<|.block<|.h<|.a 2 Y (.xH Y Y)<|.Z Y<|.ae Y (λ c1=>?_) λ c1=>?_
 ·refine .Z Y<|.aB Y Y ?_;exact⟨by unfold eG;rw[No c1],hs0.pk []⟩
 refine .h<|.a 2 Y (.Jk Y Y)<|.Z Y<|.ae Y (λ c2=>?_) λ c2=>?_
 ·refine .Z Y<|.aB Y Y ?_;exact⟨by unfold eG;rw[M2 c1,No c2]<;>rfl,hs0.pk []⟩
 refine .skip<|.Z Y<|.aB Y Y ?_;exact⟨by unfold eG;rw[M2 c1,M2 c2]<;>rfl,hs0.pk []⟩
def rf(a b:ByteArray)(w:World):
  CallsV prog 173 [(.string a),(.string b)] w λ r w'=>r= .int .i64 (eG a b)/\Sat w [] w':=by
 refine bY func173 Y λ hs0=>.Z Y<|.seq<|.block<|.h<|.a 2 Y (.xH Y Y)<|.Z Y<|.ae Y (λ c1=>?_) λ c1=>?_
 ·refine .Z Y<|.aB Y Y ?_;exact⟨by unfold eG;rw[No c1],hs0.pk []⟩
 refine .h<|.a 2 Y (.Jk Y Y)<|.Z Y<|.ae Y (λ c2=>?_) λ c2=>?_
 ·refine .Z Y<|.aB Y Y ?_;exact⟨by unfold eG;rw[M2 c1,No c2]<;>rfl,hs0.pk []⟩
 refine .skip<|.Z Y<|.aB Y Y ?_;exact⟨by unfold eG;rw[M2 c1,M2 c2]<;>rfl,hs0.pk []⟩
def JF(va vb:Value)(a b:List Pr)(w:World)(hva:RdL w va aU a)(hvb:RdL w vb aU b)(hla:a.length<=1000)(hlb:b.length<=1000):
  CallsV prog 180 [va,vb] w λ r w'=>r= .int .i64 (jM a b)/\Sat w [] w':=by
 refine bY func180 Y λ hs0=>.Z Y<|.seq<|.Z Y<|.block<|.lq [0,1] Y (α:=Nat) (λ k=>[(5,(.int .i64 k))]) (λ k w'=>Sat w [] w'/\(k<=a.length)/\(k<=b.length)/\(jM a b=jM (a.drop k) (b.drop k))) (λ k=>a.length-k) 0 ⟨hs0,KB _,KB _,Y⟩ ?_;rintro k w1 ⟨s1,hka,hkb,hk⟩;refine .seq<|.seq<|.bE 17 ((k<a.length)/\(k<b.length)) ?_ ?_
 ·refine .ln 2 (hva.ext s1.ext) Y<|.z 2 Y<|.B 12 Y (λ g1=>?_) λ g1=>?_
  ·refine .ln 2 (hvb.ext s1.ext) Y<|.M Y (by simp[g1])
  refine .M Y (by simp[g1])
 refine .ae Y (λ c1=>?_) λ c1=>?_
 ·refine .skip<|.seq<|.block<|.seq<|.seq ?_;obtain⟨p,hp⟩:∃ p,a[k]? =some p:=⟨_,py c1.1⟩;obtain⟨q,hq⟩:∃ q,b[k]? =some q:=⟨_,py c1.2⟩;refine .dk [] s1 Y (pl [0,1,2,3,4,5,6,7,8,9,1010,11] .fin) λ s2 S1=>.ix 2 S1 (hva.ext ·.ext) Y<|.fl 0 S1 (hva.ext ·.ext) Y<|.lf 0 S1 (hva.ext ·.ext) hp Y<|.ix 2 S1 (hvb.ext ·.ext) Y<|.fl 0 S1 (hvb.ext ·.ext) Y<|.lf 0 S1 (hvb.ext ·.ext) hq Y<|.c 0 S1 (wy (p.1) (q.1) _) Y λ r1 _ h1=>?_;obtain⟨rfl,p1⟩:=h1;have s3:=s2.ax p1;have S2:=s3.pk [];refine⟨S2,?_⟩;refine .Z S2 Y<|.h<|.a 1 Y (.neq Y Y)<|.nil<|.ae Y (λ c2=>?_) λ c2=>?_
  ·refine .Z Y<|.aB Y Y ?_;exact⟨by rw[hk,gL hp hq,No c2],s3.pk []⟩
  refine .skip<|.seq<|.dk [] s3 Y (pl [0,1,2,3,4,5,6,7,8,9,1010,11] .fin) λ s5 S3=>.ix 2 S3 (hva.ext ·.ext) Y<|.fl 0 S3 (hva.ext ·.ext) Y<|.lf 0 S3 (hva.ext ·.ext) hp Y<|.ix 2 S3 (hvb.ext ·.ext) Y<|.fl 0 S3 (hvb.ext ·.ext) Y<|.lf 0 S3 (hvb.ext ·.ext) hq Y<|.c 0 S3 (wy (p.2) (q.2) _) Y λ r2 _ h2=>?_;obtain⟨rfl,p2⟩:=h2;have s6:=s5.ax p2;have S4:=s6.pk [];refine⟨S4,?_⟩;refine .Z S4 Y<|.h<|.a 1 Y (.neq Y Y)<|.nil<|.ae Y (λ c3=>?_) λ c3=>?_
  ·refine .Z Y<|.aB Y Y ?_;exact⟨by rw[hk,gL hp hq,M2 c2,No c3],s6.pk []⟩
  refine .skip<|.U Y ?_;exact aR (k+1) ⟨s6,by omega,by omega,by rw[hk,gL hp hq,M2 c2,M2 c3]⟩
 refine .ar<|.h<|.ln 1 (hva.ext s1.ext) Y<|.ln 1 (hvb.ext s1.ext) Y<|.cp 0 s1 (wx ((a.length:Nat):Int) ((b.length:Nat):Int) _) Y λ _ s8=>.Z Y<|.aB Y Y ?_;exact⟨by rw[hk,re hka hkb c1],s8.pk []⟩
def JG(x y:Iv)(w:World)(hvx:RdL w x.sv.val aU x.ps)(hvy:RdL w y.sv.val aU y.ps)(hlx:x.ps.length<=1000)(hly:y.ps.length<=1000):
  CallsV prog 117 [((aI).ag x),((aI).ag y)] w λ r w'=>r= .int .i64 (eB x y)/\Sat w [] w':=by
 have hs0:=Sat.start w;refine ai func117 Y Y ?_;refine .h<|.bx 0 hs0 Y λ b1 _ s1 _ _=>.bx 0 s1 Y λ b2 _ s2 _ _=>.Z Y<|.seq<|.h<|.ld 1 s2 0 Y<|.ld 1 s2 1 Y<|.cq 0 s2 (wx (x.b) (y.b) _) Y λ _ s3=>.Z Y<|.h<|.a 1 Y (.neq Y Y)<|.nil<|.ae Y (λ c1=>?_) λ c1=>?_
 ·refine .Z Y<|.aB Y Y ?_;exact⟨by unfold eB;rw[No c1],s3.pk []⟩
 refine .skip<|.seq<|.h<|.ld 1 s3 1 Y<|.ld 1 s3 0 Y<|.cp 0 s3 (wx (y.e) (x.e) _) Y λ _ s5=>.Z Y<|.h<|.a 1 Y (.neq Y Y)<|.nil<|.ae Y (λ c2=>?_) λ c2=>?_
 ·refine .Z Y<|.aB Y Y ?_;exact⟨by unfold eB;rw[M2 c1,No c2],s5.pk []⟩
 refine .skip<|.seq<|.h<|.ld 1 s5 0 Y<|.ld 1 s5 1 Y<|.cp 0 s5 (wy (x.nm) (y.nm) _) Y λ _ s7=>.Z Y<|.h<|.a 1 Y (.neq Y Y)<|.nil<|.ae Y (λ c3=>?_) λ c3=>?_
 ·refine .Z Y<|.aB Y Y ?_;exact⟨by unfold eB;rw[M2 c1,M2 c2,No c3],s7.pk []⟩
 refine .skip<|.h<|.ld 1 s7 0 Y<|.ld 1 s7 1 Y<|.cq 0 s7 (JF _ _ (x.ps) (y.ps) _ (hvx.ext s7.ext) (hvy.ext s7.ext) hlx hly) Y λ _ s9=>.Z Y<|.aB Y Y ?_;exact⟨by unfold eB;rw[M2 c1,M2 c2,M2 c3],s9.pk []⟩
def rh(b:Bool)(w:World):
  CallsV prog 172 [(.bool b)] w λ r w'=>r= .int .i64 (if b then-1 else 1)/\Sat w [] w':=by
 refine bY func172 Y λ hs0=>.Z Y<|.seq<|.Z Y<|.cond Y (λ c1=>?_) (λ c1=>?_)
 ·refine .Z Y<|.aB Y Y ?_;exact⟨by rw[c1]<;>rfl,hs0.pk []⟩
 refine .skip<|.Z Y<|.aB Y Y ?_;exact⟨by rw[c1]<;>rfl,hs0.pk []⟩
def xR(x y:Iv)(w:World)(hvx:RdL w x.sv.val aU x.ps)(hvy:RdL w y.sv.val aU y.ps)(hlx:x.ps.length<=1000)(hly:y.ps.length<=1000):
  CallsV prog 111 [((aI).ag x),((aI).ag y)] w λ r w'=>r= .int .i64 (eB x y)/\Sat w [] w':=by
 have hs0:=Sat.start w;refine ai func111 Y Y ?_;refine .h<|.bx 0 hs0 Y λ b1 _ s1 _ _=>.bx 0 s1 Y λ b2 _ s2 _ _=>.Z Y<|.seq<|.block<|.h<|.ld 1 s2 0 Y<|.ld 1 s2 1 Y<|.e Y (.neq Y Y)<|.Z Y<|.ae Y (λ c1=>?_) λ c1=>?_
 ·refine .h<|.ld 1 s2 0 Y<|.ld 1 s2 1 Y<|.e Y (.lss Y Y)<|.cq 0 s2 (rh (decide ((x.b:Int)<(y.b:Int))) _) Y λ _ s3=>.Z Y<|.aB Y Y ?_;exact⟨by unfold eB;rw[No (show ed x.b y.b≠0 by unfold ed;omega)];unfold ed;simp only[Ss];split;rfl;rw[No (by omega)],s3.pk []⟩
 refine .h<|.ld 1 s2 0 Y<|.ld 1 s2 1 Y<|.e Y (.neq Y Y)<|.Z Y<|.ae Y (λ c2=>?_) λ c2=>?_
 ·refine .h<|.ld 1 s2 0 Y<|.ld 1 s2 1 Y<|.e Y (.gtr Y Y)<|.cq 0 s2 (rh (decide ((y.e:Int)<(x.e:Int))) _) Y λ _ s5=>.Z Y<|.aB Y Y ?_;exact⟨by unfold eB;rw[M2 (show¬ ed x.b y.b≠0 by unfold ed;omega),No (show ed y.e x.e≠0 by unfold ed;omega)];unfold ed;simp only[Ss];split;rfl;rw[No (by omega)],s5.pk []⟩
 refine .seq ?_;have hci2:eB x y=if eG x.nm y.nm≠0 then eG x.nm y.nm else jM x.ps y.ps:=by unfold eB;rw[M2 (show¬ ed x.b y.b≠0 by unfold ed;omega),M2 (show¬ ed y.e x.e≠0 by unfold ed;omega)]
 refine .region<|.ld 1 s2 0 Y<|.ld 1 s2 1 Y<|.e Y (.dG Y Y)<|.Z Y<|.ae Y (λ c3=>?_) λ c3=>?_
 ·refine .h<|.ld 1 s2 0 Y<|.ld 1 s2 1 Y<|.cq 0 s2 (rf (x.nm) (y.nm) _) Y λ _ s7=>.Z Y<|.aB Y Y ?_;exact⟨by rw[hci2,No (wu c3)],s7.pk []⟩
 refine .skip<|.seq<|.seq ?_;have hci3:eB x y=jM x.ps y.ps:=by rw[hci2,M2 (by rw[show x.nm=y.nm by simpa using c3,lM];simp)]
 refine .U Y<|.block<|.lq [0,1,2,3] Y (α:=Nat) (λ k=>[(5,(.int .i64 k))]) (λ k w'=>Sat w s2.L w'/\(k<=x.ps.length)/\(k<=y.ps.length)/\(jM x.ps y.ps=jM (x.ps.drop k) (y.ps.drop k))) (λ k=>x.ps.length-k) 0 ⟨s2,KB _,KB _,Y⟩ ?_;rintro k w6 ⟨s9,hka,hkb,hk⟩;refine .seq<|.seq<|.bE 52 ((k<x.ps.length)/\(k<y.ps.length)) ?_ ?_
 ·refine .ld 2 s9 0 Y<|.ln 0 (hvx.ext s9.ext) Y<|.z 2 Y<|.B 46 Y (λ g1=>?_) λ g1=>?_
  ·refine .ld 2 s9 1 Y<|.ln 0 (hvy.ext s9.ext) Y<|.M Y (by simp[g1])
  refine .M Y (by simp[g1])
 refine .ae Y (λ c4=>?_) λ c4=>?_
 ·refine .skip<|.seq<|.block<|.seq<|.seq ?_;obtain⟨p,hp⟩:∃ p,x.ps[k]? =some p:=⟨_,py c4.1⟩;obtain⟨q,hq⟩:∃ q,y.ps[k]? =some q:=⟨_,py c4.2⟩;refine .dk [0,1] s9 Y (pl [0,1,2,3,4,5,6,7,8,9,10,11,12] .fin) λ s10 S1=>.ld 1 S1 0 Y<|.ix 1 S1 (hvx.ext ·.ext) Y<|.fl 0 S1 (hvx.ext ·.ext) Y<|.lf 0 S1 (hvx.ext ·.ext) hp Y<|.ld 1 S1 1 Y<|.ix 1 S1 (hvy.ext ·.ext) Y<|.fl 0 S1 (hvy.ext ·.ext) Y<|.lf 0 S1 (hvy.ext ·.ext) hq Y<|.e Y (λ _ s=>.dG Y Y) S1<|.fin<|.ae Y (λ c5=>?_) λ c5=>?_
  ·refine .seq<|.dk [0,1] s10 Y (pl [0,1,2,3,4,5,6,7,8,9,10,11,1012,13] .fin) λ s11 S2=>.ld 1 S2 0 Y<|.ix 1 S2 (hvx.ext ·.ext) Y<|.fl 0 S2 (hvx.ext ·.ext) Y<|.lf 0 S2 (hvx.ext ·.ext) hp Y<|.ld 1 S2 1 Y<|.ix 1 S2 (hvy.ext ·.ext) Y<|.fl 0 S2 (hvy.ext ·.ext) Y<|.lf 0 S2 (hvy.ext ·.ext) hq Y<|.c 0 S2 (rf (p.1) (q.1) _) Y λ r4 _ h4=>?_;obtain⟨rfl,p4⟩:=h4;have s12:=(s11.ax p4).nn;have S3:=s12.pk [0,1];refine⟨S3,?_⟩;refine .Z S3 Y<|.aB Y Y ?_;exact⟨by rw[hci3,hk,gL hp hq,No (wu c5)],s12.pk []⟩
  refine .skip<|.seq<|.dk [0,1] s10 Y (pl [0,1,2,3,4,5,6,7,8,9,10,11,12] .fin) λ s14 S4=>.ld 1 S4 0 Y<|.ix 1 S4 (hvx.ext ·.ext) Y<|.fl 0 S4 (hvx.ext ·.ext) Y<|.lf 0 S4 (hvx.ext ·.ext) hp Y<|.ld 1 S4 1 Y<|.ix 1 S4 (hvy.ext ·.ext) Y<|.fl 0 S4 (hvy.ext ·.ext) Y<|.lf 0 S4 (hvy.ext ·.ext) hq Y<|.e Y (λ _ s=>.dG Y Y) S4<|.fin<|.ae Y (λ c6=>?_) λ c6=>?_
  ·refine .seq<|.dk [0,1] s14 Y (pl [0,1,2,3,4,5,6,7,8,9,10,11,1012,13] .fin) λ s15 S5=>.ld 1 S5 0 Y<|.ix 1 S5 (hvx.ext ·.ext) Y<|.fl 0 S5 (hvx.ext ·.ext) Y<|.lf 0 S5 (hvx.ext ·.ext) hp Y<|.ld 1 S5 1 Y<|.ix 1 S5 (hvy.ext ·.ext) Y<|.fl 0 S5 (hvy.ext ·.ext) Y<|.lf 0 S5 (hvy.ext ·.ext) hq Y<|.c 0 S5 (rf (p.2) (q.2) _) Y λ r5 _ h5=>?_;obtain⟨rfl,p5⟩:=h5;have s16:=(s15.ax p5).nn;have S6:=s16.pk [0,1];refine⟨S6,?_⟩;refine .Z S6 Y<|.aB Y Y ?_;exact⟨by rw[hci3,hk,gL hp hq,M2 (by rw[show p.1=q.1 by simpa using c5,lM];simp),No (wu c6)],s16.pk []⟩
  refine .skip<|.U Y ?_;exact aR (k+1) ⟨s14,by omega,by omega,by rw[hk,gL hp hq,M2 (by rw[show p.1=q.1 by simpa using c5,lM];simp),M2 (by rw[show p.2=q.2 by simpa using c6,lM];simp)]⟩
 refine .ar<|.seq<|.h<|.ld 1 s9 0 Y<|.ln 0 (hvx.ext s9.ext) Y<|.ld 1 s9 1 Y<|.ln 0 (hvy.ext s9.ext) Y<|.Z Y<|.ae Y (λ c7=>?_) λ c7=>?_
 ·refine .h<|.ld 1 s9 0 Y<|.ln 0 (hvx.ext s9.ext) Y<|.ld 1 s9 1 Y<|.ln 0 (hvy.ext s9.ext) Y<|.cq 1 s9 (rh (decide (x.ps.length<y.ps.length)) _) Y λ _ s18=>.Z Y<|.aB Y Y ?_;exact⟨by rw[hci3,hk,re hka hkb c4];unfold ed;simp only[Ss];split;rw[No (by omega)];rw[M2 (by omega),No (by omega)],s18.pk []⟩
 refine .skip<|.Z Y<|.aB Y Y ?_;exact⟨by rw[hci3,hk,re hka hkb c4];unfold ed;rw[M2 (by omega),M2 (by omega)]<;>rfl,s9.pk []⟩
def DK(c:Co)(n:Nat)(w:World)(hr:RdC w c)(ho:OkC n c)(hn:n<=3):
  CallsV prog 70 [(.agg #[c.va,c.vt,c.vx,c.vr,c.vn,c.vh,c.vl])] w λ r w'=>r= .tuple #[.int .i64 ((0:Nat):Int),.int .i64 ((0:Nat):Int)]/\Sat w [] w':=by
 have htk:=ho.ntk;have htx:=ho.ntx;have hrg:=ho.nrg;have hnd:=ho.nnd;have hat:=ho.at_.2;have hs0:=Sat.start w;refine ai func70 Y Y ?_;refine .h<|.bx 0 hs0 Y λ b1 _ s1 _ _=>.Z Y<|.seq<|.block<|.h<|.ld 1 s1 0 Y<|.ln 0 (hr.a.ext s1.ext) Y<|.Z Y<|.ao Y (AT (by omega))<|.h<|.ld 1 s1 0 Y<|.ln 0 (hr.a.ext s1.ext) Y<|.Z Y<|.ao Y (AT (by omega))<|.skip<|.seq<|.h<|.ld 1 s1 0 Y<|.ln 0 (hr.a.ext s1.ext) Y<|.Z Y<|.block<|.lq [0,1,19,20] Y (α:=Nat) (λ k=>[(21,(.int .i64 k))]) (λ k w'=>Sat w s1.L w') (λ k=>c.at_.length-k) 0 s1 ?_;rintro k w2 s2;refine .Z Y<|.seq<|.ae Y (λ c1=>?_) λ c1=>?_
 ·refine .skip<|.seq<|.block<|.seq ?_;obtain⟨x,hx⟩:∃ x,(c.at_)[k]? =some x:=⟨_,py c1⟩;refine .region<|.ix 1 (hr.a.ext s2.ext) Y<|.lg 0 (hr.a.ext s2.ext) hx Y<|.al 0 s2 Y λ b2 _ s3 _ _=>.sa 1 s3 1 Y ((cP).one _) λ _ s4 _=>?_;have s4:=s4.nn;refine .nil<|.seq<|.h<|.ld 1 s4 1 Y<|.cp 0 s4 (dW x.1 _) Y λ _ s5=>.e Y (.cJ Y)<|.nil<|.ao Y (by simp[(ho.at_.1 k x hx).1])<|.skip<|.h<|.ld 1 s5 0 Y<|.a 1 Y (.b9 (E:=cP) (a:=0) (c:=k) Fo Y (hr.a.ext s5.ext) Y ⟨_,Y⟩ (KB _) (by omega))<|.ln 0 (((hr.a.ext s5.ext)).sub (a:=0) (b:=k) (KB _) (by omega)) Y<|.Z Y<|.block<|.lq [0,1,4,5,19,20,21,34,35] Y (α:=Nat) (λ j=>[(36,(.int .i64 j))]) (λ j w'=>Sat w s5.L w') (λ j=>(((c.at_).take k).drop 0).length-j) 0 s5 ?_;rintro j w6 s6;refine .Z Y<|.seq<|.ae Y (λ c2=>?_) λ c2=>?_
  ·refine .skip<|.seq<|.block<|.seq ?_;obtain⟨y,hy⟩:∃ y,(((c.at_).take k).drop 0)[j]? =some y:=⟨_,py c2⟩;have hjl:(((c.at_).take k).drop 0).length<=8:=by simp;omega
   refine .region<|.ix 0 (((hr.a.ext s6.ext)).sub (a:=0) (b:=k) (KB _) (by omega)) Y<|.lg 0 (((hr.a.ext s6.ext)).sub (a:=0) (b:=k) (KB _) (by omega)) hy Y<|.al 0 s6 Y λ b3 _ s7 _ _=>.sa 0 s7 2 Y ((cP).one _) λ _ s8 _=>?_;have s8:=s8.nn;refine .nil<|.h<|.ld 1 s8 2 Y<|.ld 1 s8 1 Y<|.e Y (.fh Y Y)<|.nil<|.ao Y (AT (ho.at_.no hx hy))<|.skip<|.U Y ?_;exact aR (j+1) (s8.pk [0,1])
  refine .ar<|.U Y ?_;exact aR (k+1) (s6.pk [0])
 refine .ar<|.Z Y<|.bP Y Y Y ?_;exact⟨Y,s2.pk []⟩
def AD(c:Co)(n:Nat)(w:World)(hr:RdC w c)(ho:OkC n c)(hn:n<=3):
  CallsV prog 71 [(.agg #[c.va,c.vt,c.vx,c.vr,c.vn,c.vh,c.vl])] w λ r w'=>r= .tuple #[.int .i64 ((0:Nat):Int),.int .i64 ((0:Nat):Int)]/\Sat w [] w':=by
 have htk:=ho.ntk;have htx:=ho.ntx;have hrg:=ho.nrg;have hnd:=ho.nnd;have hat:=ho.at_.2;have hs0:=Sat.start w;refine ai func71 Y Y ?_;refine .h<|.bx 0 hs0 Y λ b1 _ s1 _ _=>.Z Y<|.seq<|.h<|.ld 1 s1 0 Y<|.ln 0 (hr.t.ext s1.ext) Y<|.Z Y<|.ao Y (AT (by omega))<|.skip<|.seq<|.h<|.ld 1 s1 0 Y<|.ln 0 (hr.t.ext s1.ext) Y<|.Z Y<|.block<|.lq [0,1,14,15] Y (α:=Nat) (λ k=>[(16,(.int .i64 k))]) (λ k w'=>Sat w s1.L w') (λ k=>c.tk.length-k) 0 s1 ?_;rintro k w2 s2;refine .Z Y<|.seq<|.ae Y (λ c1=>?_) λ c1=>?_
 ·refine .skip<|.seq<|.block<|.seq ?_;obtain⟨x,hx⟩:∃ x,(c.tk)[k]? =some x:=⟨_,py c1⟩;have htl:=(ho.tk x (a7 hx)).1;refine .region<|.ix 1 (hr.t.ext s2.ext) Y<|.le 0 (hr.t.ext s2.ext) hx Y<|.Z Y<|.seq<|.h<|.ln 1 ((hr.tr _ (a7 hx)).ext s2.ext) Y<|.ld 1 s2 0 Y<|.ln 0 (hr.a.ext s2.ext) Y<|.Z Y<|.ao Y (AT (λ h=>h (ho.tk x (a7 hx)).1))<|.skip<|.h<|.ln 1 ((hr.tr _ (a7 hx)).ext s2.ext) Y<|.Z Y<|.block<|.lq [0,1,4,5,14,15,16,28,29] Y (α:=Nat) (λ j=>[(30,(.int .i64 j))]) (λ j w'=>Sat w s2.L w') (λ j=>x.ns.length-j) 0 s2 ?_;rintro j w3 s3;refine .Z Y<|.seq<|.ae Y (λ c2=>?_) λ c2=>?_
  ·refine .skip<|.seq<|.block<|.seq ?_;obtain⟨v,hv⟩:∃ v,(x.ns)[j]? =some v:=⟨_,py c2⟩;obtain⟨a,ha⟩:∃ a,c.at_[j]? =some a:=⟨_,py (by omega)⟩;refine .region<|.ix 1 ((hr.tr _ (a7 hx)).ext s3.ext) Y<|.le 0 ((hr.tr _ (a7 hx)).ext s3.ext) hv Y<|.Z Y<|.h<|.ld 1 s3 0 Y<|.ix 1 (hr.a.ext s3.ext) Y<|.lg 0 (hr.a.ext s3.ext) ha Y<|.cp 1 s3 (DJ a v _ ((ho.tk x (a7 hx)).2 j v a hv ha)) Y λ _ s4=>.Z Y<|.Z Y<|.ao Y (Y)<|.skip<|.U Y ?_;exact aR (j+1) s4
  refine .ar<|.U Y ?_;exact aR (k+1) s3
 refine .ar<|.Z Y<|.bP Y Y Y ?_;exact⟨Y,s2.pk []⟩
def xS(c:Co)(n m:Nat)(x:Iv)(w:World)(hr:RdC w c)(ho:OkC n c)(hn:n<=3)(hx:c.tx[m]? =some x):
  CallsV prog 114 [(.agg #[c.va,c.vt,c.vx,c.vr,c.vn,c.vh,c.vl]),(.string x.nm)] w λ r w'=>r= .int .i64 (m:Int)/\Sat w [] w':=by
 have htx:=ho.ntx;have hml:=(IN.1 hx).1;have hs0:=Sat.start w;refine ai func114 Y Y ?_;refine .h<|.bx 0 hs0 Y λ b1 _ s1 _ _=>.Z Y<|.seq<|.h<|.ld 1 s1 0 Y<|.ln 0 (hr.x.ext s1.ext) Y<|.Z Y<|.block<|.lq [0,1,2,8,9] Y (α:=Nat) (λ k=>[(10,(.int .i64 k))]) (λ k w'=>Sat w s1.L w'/\(k<=m)) (λ k=>c.tx.length-k) 0 ⟨s1,KB _⟩ ?_;rintro k w2 ⟨s2,hk⟩;refine .Z Y<|.seq<|.ae Y (λ c1=>?_) λ c1=>?_
 ·refine .skip<|.seq<|.block<|.seq ?_;obtain⟨y,hy⟩:∃ y,(c.tx)[k]? =some y:=⟨_,py c1⟩;refine .region<|.ix 1 (hr.x.ext s2.ext) Y<|.lg 0 (hr.x.ext s2.ext) hy Y<|.al 0 s2 Y λ b2 _ s3 _ _=>.sa 1 s3 1 Y ((aI).one _) λ _ s4 _=>?_;have s4:=s4.nn;refine .nil<|.h<|.ld 1 s4 1 Y<|.a 1 Y (.fh Y Y)<|.nil<|.ae Y (λ c2=>?_) λ c2=>?_
  ·refine .Z Y<|.aB Y Y ?_;have e:k=m:=Nat.le_antisymm hk (TT λ q=>ho.tx.nd m k x y hx hy q c2);subst e;exact⟨Y,s4.pk []⟩
  refine .skip<|.U Y ?_;exact aR (k+1) ⟨s4.pk [0],Bv hk hx hy c2⟩
 refine .ar<|.Z Y<|.aB Y Y ?_;have s7:=s2.pk [];omega
def oA(c:Co)(p:Int)(w:World)(hr:RdC w c)(hl:c.tx.length<=64)(hin:∃ t∈c.tx,t.b<=p/\p<t.e):
  CallsV prog 122 [(.agg #[c.va,c.vt,c.vx,c.vr,c.vn,c.vh,c.vl]),(.int .i64 (p))] w λ r w'=>∃ (i:Nat) (t:Iv),r= .int .i64 (i:Int)/\c.tx[i]? =some t/\t.b<=p/\p<t.e/\Sat w [] w':=by
 have hs0:=Sat.start w;refine ai func122 Y Y ?_;refine .h<|.bx 0 hs0 Y λ b1 _ s1 _ _=>.Z Y<|.seq<|.h<|.ld 1 s1 0 Y<|.ln 0 (hr.x.ext s1.ext) Y<|.Z Y<|.block<|.lq [0,1,2,8,9] Y (α:=Nat) (λ k=>[(10,(.int .i64 k))]) (λ k w'=>Sat w s1.L w'/\(∀ (j:Nat) t,j<k->c.tx[j]? =some t->¬ (t.b<=p/\p<t.e))) (λ k=>c.tx.length-k) 0 ⟨s1,λ j t h=>absurd h (by omega)⟩ ?_;rintro k w2 ⟨s2,hno⟩;refine .Z Y<|.seq<|.ae Y (λ c1=>?_) λ c1=>?_
 ·refine .skip<|.seq<|.block<|.seq ?_;obtain⟨x,hx⟩:∃ x,(c.tx)[k]? =some x:=⟨_,py c1⟩;refine .region<|.ix 1 (hr.x.ext s2.ext) Y<|.lg 0 (hr.x.ext s2.ext) hx Y<|.al 0 s2 Y λ b2 _ s3 _ _=>.sa 1 s3 1 Y ((aI).one _) λ _ s4 _=>?_;have s4:=s4.nn;refine .nil<|.seq<|.bE 24 (((x.b:Int)<=(p:Int))/\((p:Int)<(x.e:Int))) ?_ ?_
  ·refine .ld 1 s4 1 Y<|.a 1 Y (.leq Y Y)<|.z 1 Y<|.B 19 Y (λ g1=>?_) λ g1=>?_
   ·refine .ld 2 s4 1 Y<|.a 0 Y (.lss Y Y)<|.M Y (by simp[g1])
   refine .M Y (by simp[g1])
  refine .ae Y (λ c2=>?_) λ c2=>?_
  ·refine .Z Y<|.aB Y Y ?_;exact⟨k,x,Y,hx,c2.1,c2.2,s4.pk []⟩
  refine .skip<|.U Y ?_;exact aR (k+1) ⟨s4.pk [0],jb hno hx c2⟩
 refine .ar<|.Z Y<|.aB Y Y ?_;have s7:=s2.pk [];obtain⟨t,ht,h1⟩:=hin;obtain⟨j,hj⟩:=Sd ht;exact absurd h1 (hno j t (by have:=(IN.1 hj).1;omega) hj)
def um(c:Co)(b e:Int)(w:World)(hr:RdC w c)(n:Nat)(ho:OkC n c)(hn:n<=3)(hin:inT c.tx b e):
  CallsV prog 116 [(.agg #[c.va,c.vt,c.vx,c.vr,c.vn,c.vh,c.vl]),(.int .i64 (b)),(.int .i64 (e))] w λ r w'=>r= .bool true/\Sat w [] w':=by
 have htx:=ho.ntx;obtain⟨t,ht,ht1,ht2,ht3⟩:=hin;have hs0:=Sat.start w;refine ai func116 Y Y ?_;refine .h<|.bx 0 hs0 Y λ b1 _ s1 _ _=>.Z Y<|.h<|.lo 0 s1 0 Y<|.c 1 (oA c (b) _ (hr.ext s1.ext) (by omega) (⟨t,ht,ht1,by omega⟩)) Y λ r1 _ h1=>?_;obtain⟨ti1,tt1,rfl,htt1,htt1b,htt1e,p1⟩:=h1;have s2:=s1.ax p1;have htt1l:=(IN.1 htt1).1;refine .Z Y<|.h<|.a 2 Y (.lss Y Y)<|.z 1 Y<|.Gt 14 Y (Rr (ht2))<|.z 4 Y<|.Gt 18 Y (Rr (by omega))<|.ld 2 s2 0 Y<|.ix 1 (hr.x.ext s2.ext) Y<|.fl 0 (hr.x.ext s2.ext) Y<|.lf 0 (hr.x.ext s2.ext) htt1 Y<|.a 0 Y (.leq Y Y)<|.Z Y<|.aB Y Y ?_;exact⟨If Value.bool (Rr (by rw[<-ho.tx.same ht (a7 htt1) ⟨ht1,by omega⟩ ⟨htt1b,htt1e⟩];exact ht3)),s2.pk []⟩
def DL(c:Co)(n:Nat)(w:World)(hr:RdC w c)(ho:OkC n c)(hn:n<=3):
  CallsV prog 72 [(.agg #[c.va,c.vt,c.vx,c.vr,c.vn,c.vh,c.vl])] w λ r w'=>r= .tuple #[.int .i64 ((0:Nat):Int),.int .i64 ((0:Nat):Int)]/\Sat w [] w':=by
 have htk:=ho.ntk;have htx:=ho.ntx;have hrg:=ho.nrg;have hnd:=ho.nnd;have hat:=ho.at_.2;have hs0:=Sat.start w;refine ai func72 Y Y ?_;refine .h<|.bx 0 hs0 Y λ b1 _ s1 _ _=>.Z Y<|.seq<|.block<|.h<|.ld 1 s1 0 Y<|.ln 0 (hr.x.ext s1.ext) Y<|.Z Y<|.ao Y (AT (by omega))<|.h<|.ld 1 s1 0 Y<|.ln 0 (hr.x.ext s1.ext) Y<|.ld 2 s1 0 Y<|.ln 0 (hr.t.ext s1.ext) Y<|.a 1 Y (.M9 underlying4 Y Y)<|.Z Y<|.ao Y (ho.tx.lens)<|.skip<|.Z Y<|.seq<|.h<|.ld 1 s1 0 Y<|.ln 0 (hr.x.ext s1.ext) Y<|.Z Y<|.block<|.lq [0,1,24,25] Y (α:=Nat×Int) (λ(k,en)=>[(4,(.int .i64 (en))),(26,(.int .i64 k))]) (λ(k,en) w'=>Sat w s1.L w'/\(∀ x,c.tx[k]? =some x->x.b=en)) (λ(k,en)=>c.tx.length-k) (0,0) ⟨s1,ho.tx.first⟩ ?_;rintro⟨k,en⟩ w2 ⟨s2,hen⟩;refine .Z Y<|.seq<|.ae Y (λ c1=>?_) λ c1=>?_
 ·refine .skip<|.seq<|.block<|.seq ?_;obtain⟨x,hx⟩:∃ x,(c.tx)[k]? =some x:=⟨_,py c1⟩;have hxo:=ho.tx.nm x (a7 hx);refine .region<|.ix 1 (hr.x.ext s2.ext) Y<|.lg 0 (hr.x.ext s2.ext) hx Y<|.al 0 s2 Y λ b2 _ s3 _ _=>.sa 1 s3 1 Y ((aI).one _) λ _ s4 _=>?_;have s4:=s4.nn;refine .nil<|.seq<|.block<|.h<|.ld 1 s4 1 Y<|.cp 0 s4 (dW x.nm _) Y λ _ s5=>.e Y (.cJ Y)<|.Z Y<|.ao Y (by simp[hxo.1])<|.h<|.lo 0 s5 0 Y<|.ld 1 s5 1 Y<|.cp 0 s5 (xS c _ k x _ (hr.ext s5.ext) ho hn hx) Y λ _ s6=>.Z Y<|.ao Y (AT (by omega))<|.seq<|.h<|.ld 1 s6 1 Y<|.a 1 Y (.neq Y Y)<|.Z Y<|.ao Y (AT (λ h=>h (hen x hx)))<|.h<|.ld 1 s6 1 Y<|.ld 1 s6 1 Y<|.e Y (.leq Y Y)<|.Z Y<|.ao Y (AT (by omega))<|.region<|.ld 1 s6 1 Y<|.ld 1 s6 0 Y<|.ln 0 (hr.t.ext s6.ext) Y<|.e Y (.gtr Y Y)<|.Z Y<|.ao Y (AT (by omega))<|.seq<|.bE 62 ((k=(c.tx.length-1))/\((x.e:Int)≠((c.tk.length:Nat):Int))) ?_ ?_
  ·refine .ld 2 s6 0 Y<|.ln 0 (hr.x.ext s6.ext) Y<|.z 3 Y<|.B 69 Y (λ g1=>?_) λ g1=>?_
   ·refine .ld 1 s6 1 Y<|.ld 1 s6 0 Y<|.ln 0 (hr.t.ext s6.ext) Y<|.a 0 Y (.neq Y Y)<|.M Y (by simp[g1])
   refine .M Y (by simp[g1])
  refine .ao Y (AT (λ h=>h.2 (ho.tx.last k x hx (by omega))))<|.skip<|.seq<|.h<|.ld 1 s6 1 Y<|.cq 0 s6 (pR _ (x.ps) _ ((hr.xr _ (a7 hx)).ext s6.ext) (hxo.2.1)) Y λ _ s7=>.Z Y<|.Z Y<|.ao Y (Y)<|.skip<|.trim [0,1,4,5,6,7,24,25,26] Y<|.region<|.ld 1 s7 1 Y<|.Z Y<|.U Y ?_;exact aR (k+1,x.e) ⟨s7.pk [0],λ y hy=>ho.tx.next k x y hx hy⟩
 refine .ar<|.Z Y<|.bP Y Y Y ?_;exact⟨Y,s2.pk []⟩
def AE(x y:Iv)(w:World):
  CallsV prog 118 [((aI).ag x),((aI).ag y)] w λ r w'=>r= .bool (decide ((x.b<y.b/\y.b<x.e)/\x.e<y.e))/\Sat w [] w':=by
 have hs0:=Sat.start w;refine ai func118 Y Y ?_;refine .h<|.bx 0 hs0 Y λ b1 _ s1 _ _=>.bx 0 s1 Y λ b2 _ s2 _ _=>.Z Y<|.seq<|.bE 4 ((((x.b:Int)<(y.b:Int))/\((y.b:Int)<(x.e:Int)))/\((x.e:Int)<(y.e:Int))) ?_ ?_
 ·refine .ld 1 s2 0 Y<|.ld 1 s2 1 Y<|.e Y (.lss Y Y)<|.z 1 Y<|.B 10 Y (λ g1=>?_) λ g1=>?_
  ·refine .ld 1 s2 1 Y<|.ld 1 s2 0 Y<|.a 0 Y (.lss Y Y)<|.z 2 Y<|.B 17 Y (λ g2=>?_) λ g2=>?_
   ·refine .ld 1 s2 0 Y<|.ld 1 s2 1 Y<|.a 0 Y (.lss Y Y)<|.M Y (by simp[g1,g2])
   refine .M Y (by simp[g1,g2])
  refine .M Y (by simp[g1])
 refine .aB Y Y ?_;exact⟨Y,s2.pk []⟩
def xT(c:Co)(n:Nat)(w:World)(hr:RdC w c)(ho:OkC n c)(hn:n<=3):
  CallsV prog 73 [(.agg #[c.va,c.vt,c.vx,c.vr,c.vn,c.vh,c.vl])] w λ r w'=>r= .tuple #[.int .i64 ((0:Nat):Int),.int .i64 ((0:Nat):Int)]/\Sat w [] w':=by
 have htk:=ho.ntk;have htx:=ho.ntx;have hrg:=ho.nrg;have hnd:=ho.nnd;have hat:=ho.at_.2;have hs0:=Sat.start w;refine ai func73 Y Y ?_;refine .h<|.bx 0 hs0 Y λ b1 _ s1 _ _=>.Z Y<|.seq<|.h<|.ld 1 s1 0 Y<|.ln 0 (hr.r.ext s1.ext) Y<|.Z Y<|.ao Y (AT (by omega))<|.skip<|.Z Y<|.seq<|.h<|.ld 1 s1 0 Y<|.ln 0 (hr.r.ext s1.ext) Y<|.Z Y<|.block ?_;have s2:=s1.az 75 (aI);refine .lq [0,1,18,19] Y (α:=Nat×Value×List Iv) (λ(k,ov,op)=>[(4,ov),(20,(.int .i64 k))]) (λ(k,ov,op) w'=>Sat w (s2.U [(1,cL ov 75 (aI) (op))]) w'/\(∀ z∈op,z∈c.rg)/\(op.length<=k)) (λ(k,ov,op)=>c.rg.length-k) (0,(.slice none 0 0),[]) ⟨s2,(λ z hz=>by cases hz),KD _⟩ ?_;rintro⟨k,ov,op⟩ w2 ⟨s3,hop,hol⟩;refine .Z Y<|.seq<|.ae Y (λ c1=>?_) λ c1=>?_
 ·refine .skip<|.seq<|.block<|.seq ?_;obtain⟨x,hx⟩:∃ x,(c.rg)[k]? =some x:=⟨_,py c1⟩;have hxo:=ho.rg.el x (a7 hx);refine .region<|.ix 1 (hr.r.ext s3.ext) Y<|.lg 0 (hr.r.ext s3.ext) hx Y<|.al 0 s3 Y λ b2 _ s4 _ _=>.sa 1 s4 2 Y ((aI).one _) λ _ s5 _=>?_;have s5:=s5.nn;refine .nil<|.seq<|.block<|.h<|.ld 1 s5 2 Y<|.cp 0 s5 (dW x.nm _) Y λ _ s6=>.e Y (.cJ Y)<|.Z Y<|.ao Y (by simp[hxo.1])<|.h<|.lo 0 s6 0 Y<|.ld 1 s6 2 Y<|.ld 1 s6 2 Y<|.cp 0 s6 (um c (x.b) (x.e) _ (hr.ext s6.ext) _ ho hn (hxo.2.1)) Y λ _ s7=>.Z Y<|.ao Y (Y)<|.skip<|.seq<|.h<|.ld 1 s7 2 Y<|.cq 0 s7 (pR _ (x.ps) _ ((hr.rr _ (a7 hx)).ext s7.ext) (hxo.2.2)) Y λ _ s8=>.Z Y<|.Z Y<|.ao Y (Y)<|.skip<|.seq<|.seq ?_;obtain⟨y,hy⟩:=qt hx;refine .md [0,1,4,5,6,7,18,19,20] Y (λ K L' w'=>Weak ([(59,(.bool (decide ((0<k)/\((0:Int)<((eB y x):Int))))))]++K) L'/\Sat w s8.L w') ?_ ?_
  ·refine .dk [0,1,2] s8 Y (pl [0,1,2,3,4,5,6,7,8,9,1010,11,12] .fin) λ s9 S1=>.z 3 S1 Y<|.B 49 Y (λ g1=>?_) λ g1=>?_
   ·refine .ld 1 S1 0 Y<|.ix 2 S1 (hr.r.ext ·.ext) Y<|.lg 0 S1 (hr.r.ext ·.ext) (hy (by omega)) Y<|.a 0 S1 Y (λ _ s=>.fY zZ Y s (i:=2) Y Y)<|.c 0 S1 (JG y x _ ((hr.rr _ (a7 (hy (by omega)))).ext s9.ext) ((hr.rr _ (a7 hx)).ext s9.ext) (by have:=(ho.rg.el y (a7 (hy (by omega)))).2.2.1;omega) (by have:=hxo.2.2.1;omega)) Y λ r4 _ h4=>?_;obtain⟨rfl,p4⟩:=h4;have s10:=s9.ax p4;have S2:=s10.pk [0,1,2];refine⟨S2,?_⟩;refine .a 0 S2 Y (λ _ s=>.gtr Y Y)<|.Z S2 Y ?_;exact⟨⟨If some (If Value.bool (by simp[g1])),Y,Y,Y,Y,Y,Y,Y,Y,Y,trivial⟩,s10⟩
   refine .Z S1 Y ?_;exact⟨⟨If some (If Value.bool (by simp[g1])),Y,Y,Y,Y,Y,Y,Y,Y,Y,trivial⟩,s9⟩
  rintro L' w9 ⟨hw1,s11⟩;refine .weaken _ hw1<|.ao Y (AT (λ h=>by have:=ho.rg.asc (k-1) y x (hy h.1) (by rw[show k-1+1=k by omega];exact hx);omega))<|.skip<|.Z Y<|.seq<|.h<|.ln 1 (s11.ah 1 Y) Y<|.Z Y<|.block ?_;have s12:=s11.az 75 (aI);refine .lq [0,1,4,5,6,7,18,19,20,61,62] Y (α:=Nat×Value×List Iv) (λ(j,sv,st)=>[(8,sv),(63,(.int .i64 j))]) (λ(j,sv,st) w'=>Sat w (s12.U [(2,aq b2 75 [(.string x.nm),(.int .i64 (x.b)),(.int .i64 (x.e)),x.sv.val]),(3,cL sv 75 (aI) (st))]) w'/\(∀ z∈st,z∈c.rg)/\(st.length<=j)/\(j<=op.length)) (λ(j,sv,st)=>op.length-j) (0,(.slice none 0 0),[]) ⟨s12,(λ z hz=>by cases hz),KD _,KB _⟩ ?_;rintro⟨j,sv,st⟩ w10 ⟨s13,hst,hsl,hjo⟩;refine .Z Y<|.seq<|.ae Y (λ c2=>?_) λ c2=>?_
  ·refine .skip<|.seq<|.block<|.seq ?_;obtain⟨z,hz⟩:∃ z,(op)[j]? =some z:=⟨_,py c2⟩;have hz9:=hz;refine .region<|.ix 0 (s13.ah 1 Y) Y<|.lg 0 (s13.ah 1 Y) hz Y<|.al 0 s13 Y λ b3 _ s14 _ _=>.sa 0 s14 4 Y ((aI).one _) λ _ s15 _=>.nil<|.h<|.ld 1 s15 4 Y<|.ld 1 s15 2 Y<|.e Y (.gtr Y Y)<|.nil<|.ae Y (λ c3=>?_) λ c3=>?_
   ·refine .region<|.lo 1 s15 4 Y<|.f Y (.cn (aI) z pI (by decide) (by decide) s15 Y λ v1 _ s16 _=>?_);have s16:=s16.nn;refine .ap 0 s16 3 (s16.ah 5 Y) Y (h1:=by simp only[KM];omega) (h2:=by simp only[KM];omega) λ v2 _ s17 _=>?_;refine .Z Y<|.U Y ?_;have s18:=(s17.pk [0,1,2,3,4]).pk [0,1,2,3];exact aR (j+1,v2,st++[z]) ⟨s18,λ z hz=>(RE.1 hz).elim (hst z) (λ h=>by rw[RL.1 h];exact hop _ (a7 hz9)),by simp only[sp,KM];omega,by omega⟩
   refine .skip<|.U Y ?_;exact aR (j+1,sv,st) ⟨s15.pk [0,1,2,3],hst,by omega,by omega⟩
  refine .ar<|.seq<|.h<|.ln 1 (s13.ah 3 Y) Y<|.Z Y<|.block<|.lq [0,1,4,5,6,7,8,18,19,20,61,62,63,77,78] Y (α:=Nat) (λ i=>[(79,(.int .i64 i))]) (λ i w'=>Sat w s13.L w') (λ i=>st.length-i) 0 s13 ?_;rintro i w15 s20;refine .Z Y<|.seq<|.ae Y (λ c4=>?_) λ c4=>?_
  ·refine .skip<|.seq<|.block<|.seq ?_;obtain⟨z,hz⟩:∃ z,(st)[i]? =some z:=⟨_,py c4⟩;refine .region<|.ix 0 (s20.ah 3 Y) Y<|.lg 0 (s20.ah 3 Y) hz Y<|.al 0 s20 Y λ b4 _ s21 _ _=>.sa 0 s21 4 Y ((aI).one _) λ _ s22 _=>.nil<|.seq<|.md [0,1,4,5,6,7,8,12,18,19,20,61,62,63,77,78,79] Y (λ K L' w'=>Weak ([(92,(.bool (decide ((z.nm=x.nm)/\((z.b<x.b/\x.b<z.e)/\z.e<x.e)))))]++K) L'/\Sat w s22.L w') ?_ ?_
   ·refine .region<|.ld 1 s22 4 Y<|.ld 1 s22 2 Y<|.e Y (.fh Y Y)<|.z 1 Y<|.B 88 Y (λ g2=>?_) λ g2=>?_
    ·refine .lo 0 s22 4 Y<|.lo 0 s22 2 Y<|.cq 0 s22 (AE z x _) Y λ _ s23=>.Z Y ?_;exact⟨⟨If some (If Value.bool (by simp[g2])),Y,Y,Y,Y,Y,Y,Y,Y,Y,Y,Y,Y,Y,Y,Y,Y,Y,trivial⟩,s23⟩
    refine .Z Y ?_;exact⟨⟨If some (If Value.bool (by simp[g2])),Y,Y,Y,Y,Y,Y,Y,Y,Y,Y,Y,Y,Y,Y,Y,Y,Y,trivial⟩,s22⟩
   rintro L' w19 ⟨hw2,s24⟩;refine .weaken _ hw2<|.ao Y (AT (λ h=>ho.rg.nox z (hst z (a7 hz)) x (a7 hx) h.1 ⟨by omega,by omega,by omega,by omega⟩))<|.skip<|.U Y ?_;exact aR (i+1) (s24.pk [0,1,2,3])
  refine .ar<|.h<|.lo 1 s20 2 Y<|.f Y (.cn (aI) x pI (by decide) (by decide) s20 Y λ v3 _ s26 _=>?_);refine .ap 0 s26 3 (s26.ah 4 Y) Y (h1:=by simp only[KM];omega) (h2:=by simp only[KM];omega) λ v_4 _ s27 _=>?_;have s27:=s27.pk [0,1,2,3];refine .Z Y<|.h<|.ln 1 (s27.ah 3 Y) Y<|.Z Y<|.ao Y (AT (by simp only[sp,KM];omega))<|.skip<|.U Y ?_;exact aR (k+1,v_4,st++[x]) ⟨s27.pk [0,3],λ z hz=>(RE.1 hz).elim (hst z) (λ h=>by rw[RL.1 h];exact a7 hx),by simp only[sp,KM];omega⟩
 refine .ar<|.Z Y<|.bP Y Y Y ?_;exact⟨Y,s3.pk []⟩
def FJ(v:Value)(l:List Nd)(k:Nat)(p:Int)(w:World)(hv:RdL w v bI l)(hl:l.length<=1000)(hk:k<=l.length)(hp:p= -1\/p+1=(k:Int))(hpar:∀ (i:Nat) x,l[i]? =some x->x.p= -1\/x.p+1=(i:Int)):
  CallsV prog 119 [v,(.int .i64 (p)),(.int .i64 ((((k:Nat):Int)-1)))] w λ r w'=>r= .bool true/\Sat w [] w':=by
 refine bY func119 Y λ hs0=>.Z Y<|.seq<|.block<|.lq [0,1,6] Y (α:=Int) (λ z=>[(2,(.int .i64 (z)))]) (λ z w'=>Sat w [] w'/\(-1<=z/\z<(l.length:Int))/\(p= -1\/z=p)) (λ z=>(z+1).toNat) (((k:Nat):Int)-1) ⟨hs0,by omega,by omega⟩ ?_;rintro z w1 ⟨s1,hz,hzp⟩;refine .seq<|.seq<|.bE 13 (((0:Int)<=(z:Int))/\((z:Int)≠(p:Int))) ?_ ?_
 ·refine .a 1 Y (.geq Y Y)<|.z 1 Y<|.B 9 Y (λ g1=>?_) λ g1=>?_
  ·refine .a 2 Y (.neq Y Y)<|.M Y (by simp[g1])
  refine .M Y (by simp[g1])
 refine .ae Y (λ c1=>?_) λ c1=>?_
 ·refine .skip<|.block ?_;obtain⟨x,hx⟩:∃ x,l[z.toNat]? =some x:=⟨_,py (by omega)⟩;have hxp:=hpar _ x hx;refine .region<|.a 2 Y (.jz (j:=z.toNat) (E:=bI) j3 Y (gk (z:=z) (n:=z.toNat) (by omega)) (hv.ext s1.ext) (by omega))<|.fl 0 (hv.ext s1.ext) Y<|.lf 0 (hv.ext s1.ext) hx Y<|.Z Y ?_;exact aR x.p ⟨s1,by omega,by omega⟩
 refine .ar<|.h<|.a 2 Y (.eql Y Y)<|.Z Y<|.aB Y Y ?_;exact⟨If Value.bool (Rr (by omega)),s1.pk []⟩
def DM(c:Co)(n:Nat)(w:World)(hr:RdC w c)(ho:OkC n c)(hn:n<=3):
  CallsV prog 74 [(.agg #[c.va,c.vt,c.vx,c.vr,c.vn,c.vh,c.vl])] w λ r w'=>r= .tuple #[.int .i64 ((0:Nat):Int),.int .i64 ((0:Nat):Int)]/\Sat w [] w':=by
 have htk:=ho.ntk;have htx:=ho.ntx;have hrg:=ho.nrg;have hnd:=ho.nnd;have hat:=ho.at_.2;have hs0:=Sat.start w;refine ai func74 Y Y ?_;refine .h<|.bx 0 hs0 Y λ b1 _ s1 _ _=>.Z Y<|.seq<|.h<|.ld 1 s1 0 Y<|.ln 0 (hr.n.ext s1.ext) Y<|.Z Y<|.ao Y (AT (by omega))<|.skip<|.h<|.ld 1 s1 0 Y<|.ln 0 (hr.n.ext s1.ext) Y<|.b 1 Y (.cQ (Kw.encI .i64) (0) aY Y s1 Y Y (by omega) (by omega) (by omega) λ v1 _ s2 _=>?_);refine .Z Y<|.h<|.ld 1 s2 0 Y<|.ln 0 (hr.n.ext s2.ext) Y<|.b 1 Y (.cQ (a8 .i64) (0) aY Y s2 Y Y (by omega) (by omega) (by omega) λ v2 _ s3 _=>?_);have s3:=s3.nn;refine .Z Y<|.seq<|.h<|.ld 1 s3 0 Y<|.ln 0 (hr.n.ext s3.ext) Y<|.Z Y<|.block<|.lq [0,1,24,25] Y (α:=Nat×Value×List Int×Value×List Nat) (λ(k,ev,en,dv,dp)=>[(4,ev),(5,dv),(26,(.int .i64 k))]) (λ(k,ev,en,dv,dp) w'=>Sat w (s3.U [(1,cL ev 3 (Kw.encI .i64) (en)),(2,cL dv 3 (a8 .i64) (dp))]) w'/\(en.length=c.nd.length+1)/\(dp.length=c.nd.length+1)/\(∀ (q:Nat) z,en[q]? =some z->z=0\/∃ (s:Nat) (y:Nd),s<k/\c.nd[s]? =some y/\y.p+1=(q:Int)/\y.e=z)/\(∀ (q:Nat) d,dp[q]? =some d->d<=q)) (λ(k,ev,en,dv,dp)=>c.nd.length-k) (0,v1,List.replicate ((c.nd.length+1)) 0,v2,List.replicate ((c.nd.length+1)) 0) ⟨s3,by simp,by simp,(λ q z h=>.inl (by rw[Tn]at h;split at h;cases h;rfl;cases h)),(λ q z h=>by rw[Tn]at h;split at h;cases h;omega;cases h)⟩ ?_;rintro⟨k,ev,en,dv,dp⟩ w4 ⟨s4,hel,hdl,hen,hdp⟩;refine .Z Y<|.seq<|.ae Y (λ c1=>?_) λ c1=>?_
 ·refine .skip<|.seq<|.block<|.seq ?_;obtain⟨x,hx⟩:∃ x,(c.nd)[k]? =some x:=⟨_,py c1⟩;have hxo:=ho.nd.el x (a7 hx);have hxp:=ho.nd.par k x hx;have hxq:=hxp.imp_right (·.1);refine .region<|.ix 1 (hr.n.ext s4.ext) Y<|.lg 0 (hr.n.ext s4.ext) hx Y<|.al 0 s4 Y λ b2 _ s5 _ _=>.sa 1 s5 3 Y ((bI).one _) λ _ s6 _=>.nil<|.seq<|.block<|.h<|.ld 1 s6 3 Y<|.cq 0 s6 (dW x.nm _) Y λ _ s7=>.e Y (.cJ Y)<|.Z Y<|.ao Y (by simp[hxo.1])<|.h<|.lo 0 s7 0 Y<|.ld 1 s7 3 Y<|.ld 1 s7 3 Y<|.cp 0 s7 (um c (x.b) (x.e) _ (hr.ext s7.ext) _ ho hn (hxo.2)) Y λ _ s8=>.Z Y<|.ao Y (Y)<|.h<|.ld 1 s8 0 Y<|.ld 1 s8 3 Y<|.a 1 Y (.sub (b:=(1:Int)) Y Y (by unfold aZ;omega))<|.cp 0 s8 (FJ _ (c.nd) k (x.p) _ (hr.n.ext s8.ext) (by omega) (by omega) (by omega) (λ i y hy=>(ho.nd.par i y hy).imp_right (·.1))) Y λ _ s9=>.Z Y<|.ao Y (Y)<|.skip<|.jn [0,1,4,5,6,7,24,25,26] Y (λ K L' w'=>Weak K L'/\Sat w s9.L w') ?_ ?_
  ·refine .h<|.ld 1 s9 3 Y<|.e Y (.geq Y Y)<|.nil<|.ae Y (λ c2=>?_) λ c2=>?_
   ·refine .seq ?_;obtain⟨y,hy⟩:∃ y,c.nd[x.p.toNat]? =some y:=⟨_,py (by omega)⟩;have hyo:=(hxp.resolve_left (by omega)).2.2 y (by rw[show k-1=x.p.toNat by omega];exact hy);refine .region<|.ld 1 s9 0 Y<|.ld 1 s9 3 Y<|.e Y (.jz (j:=x.p.toNat) (E:=bI) j3 Y (gk (z:=x.p) (n:=x.p.toNat) (by omega)) (hr.n.ext s9.ext) (by omega))<|.lg 0 (hr.n.ext s9.ext) hy Y<|.al 0 s9 Y λ b3 _ s10 _ _=>?_;have s10:=s10.nn;refine .sa 0 s10 4 Y ((bI).one _) λ _ s11 _=>.nil<|.seq<|.bE 76 (((x.b:Int)<(y.b:Int))\/((y.e:Int)<(x.e:Int))) ?_ ?_
    ·refine .ld 1 s11 3 Y<|.ld 1 s11 4 Y<|.e Y (.lss Y Y)<|.z 1 Y<|.B 70 Y (λ g1=>?_) λ g1=>?_
     ·refine .M Y (by simp[g1])
     refine .ld 1 s11 3 Y<|.ld 1 s11 4 Y<|.a 0 Y (.gtr Y Y)<|.M Y (by simp[g1])
    refine .ao Y (AT (by omega))<|.skip ?_;exact⟨(wk Y),s11.pk [0,1,2,3]⟩
   refine .skip ?_;exact⟨(wk Y),s9.pk [0,1,2,3]⟩
  rintro L' w12 ⟨hw1,s14⟩;refine .weaken _ hw1<|.seq<|.seq ?_;obtain⟨z,hz⟩:∃ z,en[(x.p+1).toNat]? =some z:=⟨_,py (by omega)⟩;obtain⟨d,hd⟩:∃ d,dp[(x.p+1).toNat]? =some d:=⟨_,py (by omega)⟩;have hdd:=hdp _ d hd;have hd2:(dp.set (k+1) (d+1))[k+1]? =some (d+1):=St (by omega);refine .dk [0,1,2,3] s14 Y (pl [0,1,2,3,4,5,6,7,8] .fin) λ s15 S1=>.ld 1 S1 3 Y<|.ld 2 S1 3 Y<|.e Y (λ _ hS=>.add (b:=(1:Int)) Y Y (by unfold aZ;omega)) S1<|.e Y (λ _ hS=>.jz (j:=(x.p+1).toNat) (E:=Kw.encI .i64) aY Y (gk (z:=(x.p+1)) (n:=(x.p+1).toNat) (by omega)) (hS.ah 1 Y) (by omega)) S1<|.le 0 S1 (·.ah 1 Y) hz Y<|.e Y (λ _ hS=>.lss Y Y) S1<|.fin<|.ao Y (AT (λ h=>(hen _ z hz).elim (λ e=>by have:=hxo.2.bd ho.tx;omega) (λ⟨s,y,h1,h2,h3,h4⟩=>by have:=ho.nd.sib s k x y h2 hx h1 (by omega);omega)))<|.skip<|.h<|.ld 2 s15 3 Y<|.e Y (.add (b:=(1:Int)) Y Y (by unfold aZ;omega))<|.ld 1 s15 3 Y<|.e Y (.jz (j:=(x.p+1).toNat) (E:=Kw.encI .i64) aY Y (gk (z:=(x.p+1)) (n:=(x.p+1).toNat) (by omega)) (s15.ah 1 Y) (by omega))<|.f Y (.dj (a:=x.e) 1 dd s15 Y Y Y Y (by first|omega|(rw[Ro];omega)) λ _ s16 _=>?_);have s16:=s16.nn;refine .nil<|.h<|.ld 5 s16 3 Y<|.e Y (.add (b:=(1:Int)) Y Y (by unfold aZ;omega))<|.e Y (.jz (j:=(x.p+1).toNat) (E:=a8 .i64) aY Y (gk (z:=(x.p+1)) (n:=(x.p+1).toNat) (by omega)) (s16.ah 2 Y) (by omega))<|.le 0 (s16.ah 2 Y) hd Y<|.ix 1 (s16.ah 2 Y) Y<|.f Y (.dj (a:=(d+1)) 2 dd s16 Y Y Y Y (by first|omega|(rw[Ro];omega)) λ _ s17 _=>?_);refine .nil<|.h<|.ix 3 (s17.ah 2 Y) Y (hj:=by rw[Ro];omega)<|.le 0 (s17.ah 2 Y) hd2 Y<|.Z Y<|.ao Y (AT (by omega))<|.skip<|.U Y ?_;exact aR (k+1,ev,en.set ((x.p+1).toNat) x.e,dv,dp.set (k+1) (d+1)) ⟨s17.pk [0,1,2],by rw[Ro];exact hel,by rw[Ro];exact hdl,KY hen hx (by omega),KZ hdp (by omega)⟩
 refine .ar<|.Z Y<|.bP Y Y Y ?_;exact⟨Y,s4.pk []⟩
def AF(vh vl:Value)(hd:List Int)(rl:List ByteArray)(w:World)(hv:RdL w vh (Kw.encI .i64) hd)(hw:RdL w vl au rl)(hl:hd.length<=1000)(he:hd.length=rl.length)(hb:∃ i:Nat,(∃ h,hd[i]? =some h/\h≠-1)\/∃ s,rl[i]? =some s/\s≠ByteArray.empty):
  CallsV prog 120 [vh,vl] w λ r w'=>r= .bool false/\Sat w [] w':=by
 refine bY func120 Y λ hs0=>.Z Y<|.seq<|.h<|.ln 1 (hv.ext hs0.ext) Y<|.Z Y<|.block<|.lq [0,1,7,8] Y (α:=Nat) (λ k=>[(9,(.int .i64 k))]) (λ k w'=>Sat w [] w'/\(∀ (j:Nat) t,j<k->hd[j]? =some t->t= -1/\rl[j]? =some (ByteArray.mk #[]))) (λ k=>hd.length-k) 0 ⟨hs0,λ j t h=>absurd h (by omega)⟩ ?_;rintro k w1 ⟨s1,hno⟩;refine .Z Y<|.seq<|.ae Y (λ c1=>?_) λ c1=>?_
 ·refine .skip<|.seq<|.block<|.seq ?_;obtain⟨x,hx⟩:∃ x,(hd)[k]? =some x:=⟨_,py c1⟩;obtain⟨s,hs9⟩:∃ s,rl[k]? =some s:=⟨_,py (by omega)⟩;refine .region<|.ix 1 (hv.ext s1.ext) Y<|.le 0 (hv.ext s1.ext) hx Y<|.Z Y<|.seq<|.bE 22 (((x:Int)≠(-1:Int))\/(s≠(ByteArray.mk #[]))) ?_ ?_
  ·refine .a 1 Y (.neq Y Y)<|.z 1 Y<|.B 16 Y (λ g1=>?_) λ g1=>?_
   ·refine .M Y (by simp[g1])
   refine .ix 2 (hw.ext s1.ext) Y<|.le 0 (hw.ext s1.ext) hs9 Y<|.a 0 Y (.dG Y Y)<|.M Y (by simp[g1])
  refine .ae Y (λ c2=>?_) λ c2=>?_
  ·refine .Z Y<|.aB Y Y ?_;exact⟨Y,s1.pk []⟩
  refine .skip<|.U Y ?_;exact aR (k+1) ⟨s1,jb hno hx ⟨by omega,by rw[hs9];exact If some (Sj.1 λ h=>c2 (.inr h))⟩⟩
 refine .ar<|.Z Y<|.aB Y Y ?_;have s3:=s1.pk [];exact(Pg he hno (by omega) hb).elim
def DN(v:Value)(hd:List Int)(n:Nat)(w:World)(hv:RdL w v (Kw.encI .i64) hd)(hl:hd.length<=1000)(hf:HdF n hd):
  CallsV prog 121 [v] w λ r w'=>Sat w [cL r 4 iV (List.replicate hd.length false)] w':=by
 obtain⟨rank,hrk⟩:=hf.rk;have hs0:=Sat.start w;refine ai func121 Y Y ?_;refine .Z Y<|.h<|.ln 1 (hv.ext hs0.ext) Y<|.f Y (.cQ (iV) (false) ql Y hs0 Y Y (by omega) (by omega) (by omega) λ v1 _ s1 _=>?_);refine .Z Y<|.h<|.ln 1 (hv.ext s1.ext) Y<|.f Y (.cQ (a8 .i64) (0) aY Y s1 Y Y (by omega) (by omega) (by omega) λ v2 _ s2 _=>?_);refine .Z Y<|.seq<|.h<|.ln 1 (hv.ext s2.ext) Y<|.Z Y<|.block<|.lq [0,2,3,15] Y (α:=Nat×Value×List Nat) (λ(k,sv,se)=>[(4,sv),(16,(.int .i64 k))]) (λ(k,sv,se) w'=>Sat w (s2.U [(1,cL sv 3 (a8 .i64) (se))]) w'/\(se.length=hd.length)/\(∀ (j:Nat) v,se[j]? =some v->v<=k)) (λ(k,sv,se)=>hd.length-k) (0,v2,List.replicate (hd.length) 0) ⟨s2,by simp,(λ j v h=>by rw[Tn]at h;split at h;cases h;omega;cases h)⟩ ?_;rintro⟨k,sv,se⟩ w3 ⟨s3,hsl,hsk⟩;refine .Z Y<|.seq<|.ae Y (λ c1=>?_) λ c1=>?_
 ·refine .skip<|.seq<|.block<|.Z Y<|.Z Y<|.seq<|.block<|.lq [0,2,3,5,15,16] Y (α:=Int×Value×List Nat) (λ(z,sv,se)=>[(4,sv),(6,(.int .i64 (z)))]) (λ(z,sv,se) w'=>Sat w (s3.U [(1,cL sv 3 (a8 .i64) (se))]) w'/\(-1<=z/\z<(hd.length:Int))/\(se.length=hd.length)/\(∀ (j:Nat) v,se[j]? =some v->v<=k+1/\(v=k+1->0<=z->rank z.toNat<rank j))) (λ(z,sv,se)=>(if z<0 then 0 else rank z.toNat+1)) ((k:Int),sv,se) ⟨s3,by omega,hsl,λ j v h=>⟨by have:=hsk j v h;omega,λ e=>by have:=hsk j v h;omega⟩⟩ ?_;rintro⟨z,sv,se⟩ w4 ⟨s4,hz,hsl,hsv⟩;refine .seq<|.seq ?_;obtain⟨s,hs9⟩:=L2 se z;refine .bE 34 ((((0:Int)<=(z:Int))/\((z:Int)<((hd.length:Nat):Int)))/\(s=0)) ?_ ?_
  ·refine .a 1 Y (.geq Y Y)<|.z 1 Y<|.B 22 Y (λ g1=>?_) λ g1=>?_
   ·refine .ln 2 (hv.ext s4.ext) Y<|.a 0 Y (.lss Y Y)<|.z 2 Y<|.B 28 Y (λ g2=>?_) λ g2=>?_
    ·refine .a 2 Y (.jz (j:=z.toNat) (E:=a8 .i64) aY Y (gk (z:=z) (n:=z.toNat) (by omega)) (s4.ah 1 Y) (by omega))<|.le 0 (s4.ah 1 Y) (hs9 (by omega)) Y<|.M Y (by simp[g1,g2])
    refine .M Y (by simp[g1,g2])
   refine .M Y (by simp[g1])
  refine .ae Y (λ c2=>?_) λ c2=>?_
  ·refine .skip<|.block<|.seq ?_;obtain⟨x,hx⟩:∃ x,hd[z.toNat]? =some x:=⟨_,py (by omega)⟩;have hxr:=hf.rg _ x hx;refine .region<|.a 4 Y (.jz (j:=z.toNat) (E:=a8 .i64) aY Y (gk (z:=z) (n:=z.toNat) (by omega)) (s4.ah 1 Y) (by omega))<|.f Y (.dj (a:=(k+1)) 1 dd s4 Y Y Y Y (by omega) λ _ s5 _=>?_);have s5:=s5.nn;refine .nil<|.region<|.a 2 Y (.jz (j:=z.toNat) (E:=Kw.encI .i64) aY Y (gk (z:=z) (n:=z.toNat) (by omega)) (hv.ext s5.ext) (by omega))<|.le 0 (hv.ext s5.ext) hx Y<|.Z Y ?_;exact⟨(x,sv,se.set z.toNat (k+1)),(wk Y),⟨s5,by omega,by rw[Ro];exact hsl,L4 hsv hrk hx (by omega)⟩,(show((if(x)<0 then 0 else rank (x).toNat+1))<((if z<0 then 0 else rank z.toNat+1))from by have:=hrk _ x hx;rw[M2 (show¬ z<0 by omega)];split;omega;have:=this (by omega);omega)⟩
  refine .ar<|.seq<|.seq<|.bE 66 (((((z:Int)<(0:Int))\/(((hd.length:Nat):Int)<=(z:Int)))\/(s≠(k+1)))\/(False)) ?_ ?_
  ·refine .a 1 Y (.lss Y Y)<|.z 1 Y<|.B 46 Y (λ g3=>?_) λ g3=>?_
   ·refine .M Y (by simp[g3])
   refine .ln 2 (hv.ext s4.ext) Y<|.a 0 Y (.geq Y Y)<|.z 2 Y<|.B 52 Y (λ g4=>?_) λ g4=>?_
   ·refine .M Y (by simp[g3,g4])
   refine .a 2 Y (.jz (j:=z.toNat) (E:=a8 .i64) aY Y (gk (z:=z) (n:=z.toNat) (by omega)) (s4.ah 1 Y) (by omega))<|.le 0 (s4.ah 1 Y) (hs9 (by omega)) Y<|.z 5 Y<|.B 61 Y (λ g5=>?_) λ g5=>?_
   ·refine .M Y (by simp[g3,g4,g5])
   refine .a 2 Y (.jz (j:=z.toNat) (E:=iV) ql Y (gk (z:=z) (n:=z.toNat) (by omega)) (s4.ah 0 Y) (by simp;omega))<|.le 0 (s4.ah 0 Y) (by rw[Tn,No (by omega)]) Y ?_;refine .M Y (by simp[g3,g4,g5])
  refine .eE Y (Rr (NF hz hsl hs9 hsv))<|.ar<|.U Y ?_;exact aR (k+1,sv,se) ⟨s4,hsl,λ j v h=>(hsv j v h).1⟩
 refine .ar<|.Z Y<|.aB Y Y ?_;exact s3.pk [0]
def DO(c:Co)(n:Nat)(w:World)(hr:RdC w c)(ho:OkC n c)(hn:n<=3):
  CallsV prog 75 [(.agg #[c.va,c.vt,c.vx,c.vr,c.vn,c.vh,c.vl])] w λ r w'=>r= .tuple #[.int .i64 ((0:Nat):Int),.int .i64 ((0:Nat):Int)]/\Sat w [] w':=by
 have htk:=ho.ntk;have htx:=ho.ntx;have hrg:=ho.nrg;have hnd:=ho.nnd;have hat:=ho.at_.2;have hhl:=ho.mu.1;have hhm:c.hd.length<=36:=by rcases SJ c.hd.length with q|q;omega;have:=(ho.mu.2 q).len.1;omega
 have hs0:=Sat.start w;refine ai func75 Y Y ?_;refine .h<|.bx 0 hs0 Y λ b1 _ s1 _ _=>.Z Y<|.h<|.ld 1 s1 0 Y<|.ln 0 (hr.h.ext s1.ext) Y<|.Z Y<|.seq<|.block<|.seq<|.h<|.ld 2 s1 0 Y<|.ln 0 (hr.l.ext s1.ext) Y<|.Z Y<|.ao Y (AT (λ h=>h hhl))<|.bE 12 ((0<c.hd.length)/\(c.hd.length≠c.tk.length)) ?_ ?_
 ·refine .z 3 Y<|.B 20 Y (λ g1=>?_) λ g1=>?_
  ·refine .ld 2 s1 0 Y<|.ln 0 (hr.t.ext s1.ext) Y<|.M Y (by simp[g1])
  refine .M Y (by simp[g1])
 refine .ao Y (AT (λ h=>h.2 (ho.mu.2 h.1).len.1))<|.seq<|.md [0,1,2,3,4] Y (λ K L' w'=>Weak ([(27,(.bool (decide ((0<c.hd.length)/\(False)))))]++K) L'/\Sat w s1.L w') ?_ ?_
 ·refine .region<|.z 3 Y<|.B 30 Y (λ g2=>?_) λ g2=>?_
  ·refine .ld 1 s1 0 Y<|.ld 1 s1 0 Y<|.cp 0 s1 (AF _ _ (c.hd) (c.rl) _ (hr.h.ext s1.ext) (hr.l.ext s1.ext) (by omega) hhl (ho.mu.2 (by omega)).bare) Y λ _ s2=>.Z Y ?_;exact⟨⟨If some (If Value.bool (by simp[g2])),Y,Y,Y,Y,Y,trivial⟩,s2⟩
  refine .Z Y ?_;exact⟨⟨If some (If Value.bool (by simp[g2])),Y,Y,Y,Y,Y,trivial⟩,s1⟩
 rintro L' w3 ⟨hw1,s3⟩;refine .weaken _ hw1<|.ao Y (AT (λ h=>h.2))<|.skip<|.h<|.ld 1 s3 0 Y<|.c 0 (DN _ (c.hd) _ _ (hr.h.ext s3.ext) (by omega) ho.Rj) Y λ r2 _ h_2=>?_;have s4:=s3.ax h_2;refine .Z Y<|.seq<|.h<|.ld 1 s4 0 Y<|.ln 0 (hr.h.ext s4.ext) Y<|.Z Y<|.block<|.lq [0,1,4,5,41,42] Y (α:=Nat) (λ k=>[(43,(.int .i64 k))]) (λ k w'=>Sat w s4.L w') (λ k=>c.hd.length-k) 0 s4 ?_;rintro k w5 s5;refine .Z Y<|.seq<|.ae Y (λ c1=>?_) λ c1=>?_
 ·refine .skip<|.seq<|.block<|.seq ?_;obtain⟨x,hx⟩:∃ x,(c.hd)[k]? =some x:=⟨_,py c1⟩;have hhd:=ho.mu.2 (by omega);have hlt:(k:Int)<(c.tk.length:Int):=by have:=hhd.len.1;omega
  obtain⟨s,hs9⟩:∃ s,c.rl[k]? =some s:=⟨_,py (by have:=hhd.len;omega)⟩;refine .region<|.ix 1 (hr.h.ext s5.ext) Y<|.le 0 (hr.h.ext s5.ext) hx Y<|.Z Y<|.seq<|.dk [0,1] s5 Y (pl [0,1,2,3] (.two 4 7 (pl [5,6,1007,1008] .fin) (pl [1004,5,6,1008] .fin))) λ s6 S1=>.ld 1 S1 0 Y<|.e Y (λ _ hS=>.fY kj Y hS (i:=0) Y Y) S1<|.z 1 S1 Y<|.two Y Y Y Y Y Y (OpE.call Oj Y ((oA c ((k:Nat):Int) _ (hr.ext s6.ext) (by omega) (ho.tx.cover (Vm k) hlt)).mono λ r3 _ h_3=>?_)) (OpE.alloc s6 tz λ b2 _ s7 _ _=>?_)
  ·obtain⟨ti1,tt1,rfl,htt1,htt1b,htt1e,p3⟩:=h_3;have s8:=(s6.ax p3).nn;have htt1l:=(IN.1 htt1).1;have S2:=s8.pk [0,1];refine⟨S2,?_⟩;refine .ix 0 S2 (hr.x.ext ·.ext) Y<|.lg 0 S2 (hr.x.ext ·.ext) htt1 Y<|.f Y (.alloc s8 tz λ b3 _ s9 _ _=>?_);have S3:=s9.pk [0,1];refine⟨S3,?_⟩;refine .f Y (.cC (vs:=(aI).enc tt1) zY s9 (i:=2) Y Y Y Y ((aI).one _) λ _ s10 _=>?_);have S4:=s10.pk [0,1];refine⟨S4,?_⟩;refine .fin<|.block<|.seq<|.bE 55 (((x:Int)≠(-1:Int))/\(((x:Int)<(tt1.b:Int))\/((tt1.e:Int)<=(x:Int)))) ?_ ?_
   ·refine .a 1 Y (.neq Y Y)<|.z 1 Y<|.B 58 Y (λ g3=>?_) λ g3=>?_
    ·refine .ld 2 s10 2 Y<|.a 0 Y (.lss Y Y)<|.z 1 Y<|.B 63 Y (λ g4=>?_) λ g4=>?_
     ·refine .M Y (by simp[g3,g4])
     refine .ld 2 s10 2 Y<|.a 0 Y (.geq Y Y)<|.M Y (by simp[g3,g4])
    refine .M Y (by simp[g3])
   refine .ao Y (AT (λ h=>(hhd.el k x hx).elim (λ e=>h.1 e) (λ⟨t,h1,h2,h3,h4,h5⟩=>by have e:=ho.tx.same h1 (a7 htt1) ⟨h2,h3⟩ ⟨htt1b,htt1e⟩;subst e;omega)))<|.seq<|.md [0,1,4,5,6,7,8,41,42,43] Y (λ K L' w'=>Weak ([(71,(.bool (decide ((s≠(ByteArray.mk #[]))/\((!(bF s))=true)))))]++K) L'/\Sat w s10.L w') ?_ ?_
   ·refine .region<|.ld 1 s10 0 Y<|.ix 1 (hr.l.ext s10.ext) Y<|.le 0 (hr.l.ext s10.ext) hs9 Y<|.e Y (.dG Y Y)<|.z 1 Y<|.B 78 Y (λ g5=>?_) λ g5=>?_
    ·refine .ld 1 s10 0 Y<|.ix 1 (hr.l.ext s10.ext) Y<|.le 0 (hr.l.ext s10.ext) hs9 Y<|.cq 0 s10 (dW s _) Y λ _ s11=>.a 0 Y (.cJ Y)<|.Z Y ?_;exact⟨⟨If some (If Value.bool (by simp[g5])),Y,Y,Y,Y,Y,Y,Y,Y,Y,Y,trivial⟩,s11⟩
    refine .Z Y ?_;exact⟨⟨If some (If Value.bool (by simp[g5])),Y,Y,Y,Y,Y,Y,Y,Y,Y,Y,trivial⟩,s10⟩
   rintro L' w11 ⟨hw2,s12⟩;refine .weaken _ hw2<|.ao Y (AT (λ h=>(hhd.nm s (a7 hs9)).elim (λ e=>h.1 e) (λ e=>by have:=h.2;simp[e]at this)))<|.h<|.ix 2 (s12.ah 1 Y) Y (hj:=by simp;omega)<|.le 0 (s12.ah 1 Y) (by rw[Tn,No c1]) Y ?_;refine .Z Y<|.ao Y (Y)<|.skip<|.U Y ?_;exact aR (k+1) (s12.pk [0,1])
  have s7:=s7.nn;have S5:=s7.pk [0,1];refine⟨S5,?_⟩;refine .c 0 S5 (oA c ((k:Nat):Int) _ (hr.ext s7.ext) (by omega) (ho.tx.cover (Vm k) hlt)) Y λ r5 _ h_5=>?_;obtain⟨ti2,tt2,rfl,htt2,htt2b,htt2e,p5⟩:=h_5;have s14:=s7.ax p5;have htt2l:=(IN.1 htt2).1;have S6:=s14.pk [0,1];refine⟨S6,?_⟩;refine .ix 0 S6 (hr.x.ext ·.ext) Y<|.lg 0 S6 (hr.x.ext ·.ext) htt2 Y<|.f Y (.cC (vs:=(aI).enc tt2) zY s14 (i:=2) Y Y Y Y ((aI).one _) λ _ s15 _=>?_);have S7:=s15.pk [0,1];refine⟨S7,?_⟩;refine .fin<|.block<|.seq<|.bE 55 (((x:Int)≠(-1:Int))/\(((x:Int)<(tt2.b:Int))\/((tt2.e:Int)<=(x:Int)))) ?_ ?_
  ·refine .a 1 Y (.neq Y Y)<|.z 1 Y<|.B 58 Y (λ g6=>?_) λ g6=>?_
   ·refine .ld 2 s15 2 Y<|.a 0 Y (.lss Y Y)<|.z 1 Y<|.B 63 Y (λ g7=>?_) λ g7=>?_
    ·refine .M Y (by simp[g6,g7])
    refine .ld 2 s15 2 Y<|.a 0 Y (.geq Y Y)<|.M Y (by simp[g6,g7])
   refine .M Y (by simp[g6])
  refine .ao Y (AT (λ h=>(hhd.el k x hx).elim (λ e=>h.1 e) (λ⟨t,h1,h2,h3,h4,h5⟩=>by have e:=ho.tx.same h1 (a7 htt2) ⟨h2,h3⟩ ⟨htt2b,htt2e⟩;subst e;omega)))<|.seq<|.md [0,1,4,5,6,7,8,41,42,43] Y (λ K L' w'=>Weak ([(71,(.bool (decide ((s≠(ByteArray.mk #[]))/\((!(bF s))=true)))))]++K) L'/\Sat w s15.L w') ?_ ?_
  ·refine .region<|.ld 1 s15 0 Y<|.ix 1 (hr.l.ext s15.ext) Y<|.le 0 (hr.l.ext s15.ext) hs9 Y<|.e Y (.dG Y Y)<|.z 1 Y<|.B 78 Y (λ g8=>?_) λ g8=>?_
   ·refine .ld 1 s15 0 Y<|.ix 1 (hr.l.ext s15.ext) Y<|.le 0 (hr.l.ext s15.ext) hs9 Y<|.cq 0 s15 (dW s _) Y λ _ s16=>.a 0 Y (.cJ Y)<|.Z Y ?_;exact⟨⟨If some (If Value.bool (by simp[g8])),Y,Y,Y,Y,Y,Y,Y,Y,Y,Y,trivial⟩,s16⟩
   refine .Z Y ?_;exact⟨⟨If some (If Value.bool (by simp[g8])),Y,Y,Y,Y,Y,Y,Y,Y,Y,Y,trivial⟩,s15⟩
  rintro L' w15 ⟨hw3,s17⟩;refine .weaken _ hw3<|.ao Y (AT (λ h=>(hhd.nm s (a7 hs9)).elim (λ e=>h.1 e) (λ e=>by have:=h.2;simp[e]at this)))<|.h<|.ix 2 (s17.ah 1 Y) Y (hj:=by simp;omega)<|.le 0 (s17.ah 1 Y) (by rw[Tn,No c1]) Y ?_;refine .Z Y<|.ao Y (Y)<|.skip<|.U Y ?_;exact aR (k+1) (s17.pk [0,1])
 refine .ar<|.Z Y<|.bP Y Y Y ?_;exact⟨Y,s5.pk []⟩
def OX:Enc FuncId:=⟨1,λ f=>[.func (.func f) #[] #[]],λ _=>Y,λ x u h=>by simp at h;subst h;rfl⟩
def Fv:Fn->FuncId
 | .func f=>f
 |_=>0
abbrev FK:List FuncId:=[Fv (.func 70),Fv (.func 71),Fv (.func 72),Fv (.func 73),Fv (.func 74),Fv (.func 75)]
def JH{c:Co}{n:Nat}(ho:OkC n c)(hn:n<=3){k:Nat}{x:FuncId}(hx:FK[k]? =some x):Enters prog x/\∀ w,RdC w c->CallsV prog x [c.val] w λ r w'=>r= .tuple #[.int .i64 ((0:Nat):Int),.int .i64 ((0:Nat):Int)]/\Sat w [] w':=by
 have h:=a7 hx;simp only[Rx,RF,Sa]at h;rcases h with rfl|rfl|rfl|rfl|rfl|rfl
 ·exact⟨PR,λ w hr=>DK c n w hr ho hn⟩
 ·exact⟨PS,λ w hr=>AD c n w hr ho hn⟩
 ·exact⟨PT,λ w hr=>DL c n w hr ho hn⟩
 ·exact⟨PU,λ w hr=>xT c n w hr ho hn⟩
 ·exact⟨PV,λ w hr=>DM c n w hr ho hn⟩
 exact⟨PW,λ w hr=>DO c n w hr ho hn⟩
def xU(c:Co)(n:Nat)(w:World)(hr:RdC w c)(ho:OkC n c)(hn:n<=3):
  CallsV prog 27 [(.agg #[c.va,c.vt,c.vx,c.vr,c.vn,c.vh,c.vl])] w λ r w'=>r= .tuple #[.int .i64 ((0:Nat):Int),.int .i64 ((0:Nat):Int),.int .i64 ((0:Nat):Int)]/\Sat w [] w':=by
 refine bY func27 Y λ hs0=>.h<|.bx 0 hs0 Y λ b1 _ s1 _ _=>.Z Y<|.h<|.f Y (.iA (OX) [Fv (.func 70),Fv (.func 71),Fv (.func 72),Fv (.func 73),Fv (.func 74),Fv (.func 75)] MH Y ⟨Y,Y,Y,Y,Y,Y,trivial⟩ Y Y Y Y (by decide) (by decide) s1 λ v1 _ s2 _=>?_);refine .Z Y<|.seq<|.h<|.ln 1 (s2.ah 1 Y) Y<|.Z Y<|.block<|.lq [0,1,5,11,12] Y (α:=Nat) (λ k=>[(13,(.int .i64 k))]) (λ k w'=>Sat w s2.L w') (λ k=>FK.length-k) 0 s2 ?_;rintro k w3 s3;refine .Z Y<|.seq<|.ae Y (λ c1=>?_) λ c1=>?_
 ·refine .skip<|.seq<|.block<|.seq ?_;obtain⟨x,hx⟩:∃ x,(FK)[k]? =some x:=⟨_,py c1⟩;have hok:=JH ho hn hx;have hkv:k<FK.length:=c1;have hvl:FK.length=6:=rfl;refine .region<|.ix 1 (s3.ah 1 Y) Y<|.le 0 (s3.ah 1 Y) hx Y<|.Z Y<|.h<|.lo 1 s3 0 Y<|.f Y (.Ah hok.1 Y Y ((hok.2 _ (hr.ext s3.ext)).mono λ r1 _ h1=>?_));obtain⟨rfl,p1⟩:=h1;have s4:=(s3.ax p1).nn;refine .Z Y<|.Z Y<|.ao Y (Y)<|.skip<|.U Y ?_;exact aR (k+1) s4
 refine .ar<|.Z Y<|.ret ?_;show aM _ _ _ _ _ _;refine iG Y Y Y Y ?_;exact⟨Y,s3.pk []⟩
def dn(bv:Value)(l:List Nat)(v:Nat)(w:World)(hb:RdL w bv (a8 .u8) l)(hn:l.length<=1000000000000)(hv:v<2^64):
  CallsV prog 76 [bv,(.int .u64 v)] w λ r w'=>Sat w [cL r 5 (a8 .u8) (l++uv v)] w':=by
 refine bY func76 Y λ hs0=>.Z Y<|.h<|.ln 1 (hb.ext hs0.ext) Y<|.ln 1 (hb.ext hs0.ext) Y<|.b 1 Y (.cQ (a8 .u8) (0) ck Y hs0 Y Y (by omega) (by omega) (by omega) λ v1 _ s1 _=>?_);refine .Z Y<|.h<|.b 2 Y (.Q9 0 ck Y s1 Y Y Y (hb.ext s1.ext) λ w2 s2 _=>?_);have s2d:Sat w [cL v1 5 (a8 .u8) (l)] w2:=by
  have hq:(l).take (List.replicate (l.length) 0).length++(List.replicate (l.length) 0).drop (l).length=l:=by simp
  rw[<-hq];exact s2
 refine .nil<|.seq<|.block<|.loop (α:=Nat×Value×List Nat) (λ(v2,out,acc)=>[(1,(.int .u64 v2)),(5,out)]) (λ(v2,out,acc) w'=>Sat w [cL out 5 (a8 .u8) (acc)] w'/\(v2<2^64)/\(acc++uv v2=l++uv v)) (λ(v2,out,acc)=>v2) (v,v1,l) (wk Y) ⟨s2d,hv,Y⟩ ?_;rintro⟨v2,out,acc⟩ w3 ⟨s3,hv2,hacc⟩;have hl2:=If List.length hacc;simp only[sp]at hl2;have hu1:=aC v;have hu2:=HE v2;refine .seq<|.Z Y<|.ae Y (λ c1=>?_) λ c1=>?_
 ·refine .skip<|.block<|.h<|.a 2 Y (.ik (by rw[underlying132]<;>rfl) underlying5 Y Y)<|.b 1 Y (.bO (a8 .u8) ((v2%2^8)|||128) ck Y s3 Y λ v_2 _ s4 _=>?_);refine .ap 0 s4 0 (s4.ah 1 Y) Y λ v3 _ s5 _=>?_;refine .Z Y<|.U Y ?_;exact aR ((v2/2^7),v3,acc++[((v2%2^8)|||128)]) ⟨s5.pk [0],by omega,by rw[<-hacc,CH v2 hv2 c1];simp⟩
 refine .ar<|.h<|.a 2 Y (.ik (by rw[underlying132]<;>rfl) underlying5 Y Y)<|.f Y (.bO (a8 .u8) (v2%2^8) ck Y s3 Y λ v_4 _ s6 _=>?_);refine .ap 0 s6 0 (s6.ah 1 Y) Y λ v5 _ s7 _=>?_;refine .Z Y<|.aB Y Y ?_;have hq:acc++[v2%2^8]=l++uv v:=by rw[<-hacc,ze v2 (by omega)]
 rw[<-hq];exact s7.pick [0] Y
def mT(x:Nat)(w:World)(hx:x<2^64):CallsV prog 168 [.int .u64 (x:Int)] w λ r w'=>r= .int .i64 ((Lib.bitLen x:Nat):Int)/\Sat w [] w':=by
 refine Tr (Tryz.bits_Len64 (x:Int) w (by omega) (by omega)) ?_;rintro e w' ⟨rfl,rfl⟩;exact⟨_,Y,by simp,Sat.start _⟩
def jC(w:World):
  CallsV prog 129 [] w λ r w'=>∃ g,r= .pointer (some ⟨g,0,none⟩)/\Sat w [aq g 256 [.slice none 0 0,.int .i64 0],cL (.slice none 0 0) 5 (a8 .u8) []] w':=by
 refine bY func129 Y λ hs0=>.Z Y<|.h<|.e Y (.build PK Y trivial Y)<|.bx 0 hs0 Y λ b1 _ s1 _ _=>.Z Y<|.aB Y Y ?_;exact⟨_,Y,s1.az 5 (a8 .u8)⟩
def JI(w0 w:World)(cs:List Chunk)(g:Nat)(v:Value)(bits:List Bool)(x:Nat)(hs:Sat w0 ([aq g 256 [v,.int .i64 (((bits).length:Nat):Int)],cL v 5 (a8 .u8) (aE (bits))]++cs) w)(hx:x<2^64)(hn:bits.length<=1000000000000):
  CallsV prog 235 [(.pointer (some ⟨g,0,none⟩)),(.int .u64 x)] w λ r w'=>r= .tuple #[]/\∃ v',Sat w0 ([aq g 256 [v',.int .i64 (((bits++[decide (x%2^1=1)]).length:Nat):Int)],cL v' 5 (a8 .u8) (aE (bits++[decide (x%2^1=1)]))]++cs) w':=by
 refine ai func235 Y Y ?_;refine .jn [0,1] Y (λ K L' w'=>∃ (v1:Value),Weak K L'/\Sat w0 ([aq g 256 [v1,(.int .i64 ((bits).length:Nat))],cL v1 5 (a8 .u8) (gZ bits)]++cs) w') ?_ ?_
 ·refine .seq ?_;have hpl:=aK bits;refine .region<|.ld 3 hs 0 Y<|.e Y (.J7 (b:=7) 3 Y Y (by decide) (by omega) (by decide))<|.Z Y<|.ae Y (λ c1=>?_) λ c1=>?_
  ·refine .region<|.ld 4 hs 0 Y<|.f Y (.bO (a8 .u8) 0 ck Y hs Y λ v_1 _ s1 _=>?_);have s1d:=s1.mn;refine .ap 0 s1d 1 (s1d.ah 2 Y) Y λ v2 _ s2 _=>?_;have s2d:=(s2.sn).pt [0,1];refine .st 2 s2d 0 Y (h1:=(s2d.ah 1 Y).ab) λ w3 s3 _=>?_;have s3d:=s3.sn;refine .nil ?_;have s4:Sat w0 ([aq g 256 [v2,(.int .i64 ((bits).length:Nat))],cL v2 5 (a8 .u8) (gZ bits)]++cs) w3:=by
    have hq:aE (bits)++[0]=gZ bits:=by unfold gZ;rw[No c1]
    rw[<-hq];exact s3d
   exact⟨v2,(wk Y),s4⟩
  refine .skip ?_;have s5:Sat w0 ([aq g 256 [v,(.int .i64 ((bits).length:Nat))],cL v 5 (a8 .u8) (gZ bits)]++cs) w:=by
   have hq:aE (bits)=gZ bits:=by unfold gZ;rw[M2 c1]
   rw[<-hq];exact hs
  exact⟨v,(wk Y),s5⟩
 rintro L' w4 ⟨v1,hw1,s6⟩;refine .weaken _ hw1<|.jn [0] Y (λ K L' w'=>Weak K L'/\Sat w0 (s6.V [(1,cL v1 5 (a8 .u8) (aE (bits++[decide (x%2^1=1)])))]++cs) w') ?_ ?_
 ·refine .Z Y<|.ae Y (λ c2=>?_) λ c2=>?_
  ·have hshp1:=(s6.ah (E:=a8 .u8) 1 Y).iR (by decide);refine .dt [0] s6 Y (pl [0,1,2,3,4,5,6,7,8,11,12,13,14,15,16,1009,1010,17,1018,1019] .fin) λ s7 S1=>.ld 3 S1 0 Y<|.ld 3 S1 0 Y<|.ld 4 S1 0 Y<|.e Y (λ _ s=>.J7 (b:=7) 3 Y Y (by decide) (by omega) (by decide)) S1<|.z 1 S1 Y<|.f Y (.ev (Ev.jz (E:=a8 .u8) ck Y Y (s7.ah 1 Y) (by rw[jP];omega)) ⟨S1,?_⟩);refine .f Y (.ev (Ev.Qr (E:=a8 .u8) Pz Y (s7.ah 1 Y) (EY bits) (by decide) Y) ⟨S1,?_⟩);refine .e Y (λ _ s=>.Rg Y Y Y (by first|exact lO _ _|(simp only[IntKind.bits];have:=SN 128 (2^(bits.length%2^3));omega)) (by first|exact lO _ _|(simp only[IntKind.bits];have:=SN 128 (2^(bits.length%2^3));omega))) S1<|.f Y (.ev (Ev.jz (E:=a8 .u8) ck Y Y (s7.ah 1 Y) (by rw[jP];omega)) ⟨S1,?_⟩);refine .f Y (.dj (a:=((cD bits (bits.length/2^3))|||(128/2^((bits).length%2^3)))) 1 PA s7 Y Y Y Y (by rw[jP];omega) λ w5 s8 _=>?_);have s8d:=s8.sn;have S2:=s8d.pt [0];refine⟨S2,?_⟩;refine .fin ?_;have s9:Sat w0 ([aq g 256 [v1,(.int .i64 ((bits).length:Nat))],cL v1 5 (a8 .u8) (aE (bits++[decide (x%2^1=1)]))]++cs) w5:=by
    have hq:(gZ bits).set ((bits).length/2^3) ((cD bits (bits.length/2^3))|||(128/2^((bits).length%2^3)))=aE (bits++[decide (x%2^1=1)]):=by rw[Rr c2,Bu]
    rw[<-hq];exact s8d
   exact⟨⟨Y,trivial⟩,s9⟩
  refine .skip ?_;have s10:Sat w0 ([aq g 256 [v1,(.int .i64 ((bits).length:Nat))],cL v1 5 (a8 .u8) (aE (bits++[decide (x%2^1=1)]))]++cs) w4:=by
   have hq:gZ bits=aE (bits++[decide (x%2^1=1)]):=by rw[AT c2,zf]
   rw[<-hq];exact s6
  exact⟨⟨Y,trivial⟩,s10⟩
 rintro L' w6 ⟨hw2,s11⟩;refine .weaken _ hw2<|.region<|.ld 3 s11 0 Y<|.st 3 s11 0 Y λ _ s12 _=>?_;have s12d:=s12.sn;refine .nil ?_;show aM _ _ _ _ _ _;refine cB Y ?_;refine⟨Y,v1,?_⟩;rw[show(bits++[decide (x%2^1=1)]).length=bits.length+1 by simp];exact s12d
def qv(w0 w:World)(cs:List Chunk)(g:Nat)(v:Value)(bits:List Bool)(x m:Nat)(hs:Sat w0 ([aq g 256 [v,.int .i64 (((bits).length:Nat):Int)],cL v 5 (a8 .u8) (aE (bits))]++cs) w)(hx:x<2^64)(hm:m<=64)(hn:bits.length+m<=1000000000):
  CallsV prog 192 [(.pointer (some ⟨g,0,none⟩)),(.int .u64 x),(.int .i64 m)] w λ r w'=>r= .tuple #[]/\∃ v',Sat w0 ([aq g 256 [v',.int .i64 (((bits++aT x m).length:Nat):Int)],cL v' 5 (a8 .u8) (aE (bits++aT x m))]++cs) w':=by
 refine ai func192 Y Y ?_;refine .h<|.a 1 Y (.sub (b:=(1:Int)) Y Y (by unfold aZ;omega))<|.Z Y<|.block<|.lq [0,1] Y (α:=Nat×Value×List Bool) (λ(m1,v1,bs)=>[(6,(.int .i64 ((((m1:Nat):Int)-1))))]) (λ(m1,v1,bs) w'=>Sat w0 ([aq g 256 [v1,(.int .i64 ((bs).length:Nat))],cL v1 5 (a8 .u8) (aE (bs))]++cs) w'/\(m1<=m)/\(bs++aT x m1=bits++aT x m)) (λ(m1,v1,bs)=>m1) (m,v,bits) ⟨hs,KD _,Y⟩ ?_;rintro⟨m1,v1,bs⟩ w1 ⟨s1,hm1,hacc⟩;refine .seq<|.h<|.a 1 Y (.geq Y Y)<|.nil<|.ae Y (λ c1=>?_) λ c1=>?_
 ·refine .skip<|.seq<|.block ?_;obtain⟨j,rfl⟩:∃ j,m1=j+1:=⟨m1-1,by omega⟩;refine .weaken [(0,_),(1,_),(6,(.int .i64 j)),(9,_)] ⟨Y,Y,If some (If (Value.int .i64) (by omega)),Y,trivial⟩ ?_;have hl2:=If List.length hacc;simp only[sp,aH]at hl2;have hshp1:=(s1.ah (E:=a8 .u8) 1 Y).iR (by decide);refine .dt [] s1 Y (pl [0,1,2,3,4,5,1006] .fin) λ s2 S1=>.z 5 S1 Y<|.e Y (λ _ s=>.M7 Y Y (hx)) S1 ?_;have A1:=s2.oc [0,1] 2;refine .c 0 S1 (JI _ _ _ _ _ (bs) ((x/2^j)) A1 (UK (SN _ _) hx) (by omega)) Y λ r1 _ h1=>?_;obtain⟨rfl,wv1,p1⟩:=h1;have s3:=p1.join.od [0,1];have S2:=s3.pt [];refine⟨S2,?_⟩;refine .fin<|.region<|.a 1 Y (.sub (b:=(1:Int)) Y Y (by unfold aZ;omega))<|.Z Y ?_;exact⟨(j,wv1,bs++[decide ((x/2^j)%2^1=1)]),(wk Y),⟨s3,by omega,by rw[<-hacc];simp[aT]⟩,(show((j))<(j+1)from by omega)⟩
 refine .ar ?_;show aM _ _ _ _ _ _;refine cB Y ?_;have h0:m1=0:=by omega
 subst h0;rw[show bs=bits++aT x m by rw[<-hacc];simp[aT]]at s1;exact⟨Y,v1,s1⟩
def xV(w0 w:World)(cs:List Chunk)(g:Nat)(v:Value)(bits:List Bool)(x m:Nat)(hs:Sat w0 ([aq g 256 [v,.int .i64 (((bits).length:Nat):Int)],cL v 5 (a8 .u8) (aE (bits))]++cs) w)(hx:x<2^m)(hm:m<=64)(hn:bits.length+m<=1000000000):
  CallsV prog 234 [(.pointer (some ⟨g,0,none⟩)),(.int .u64 x),(.int .i64 m)] w λ r w'=>r= .int .i64 0/\∃ v',Sat w0 ([aq g 256 [v',.int .i64 (((bits++aT x m).length:Nat):Int)],cL v' 5 (a8 .u8) (aE (bits++aT x m))]++cs) w':=by
 have hx64:x<2^64:=TY hx (Sc (by decide) hm);have hbl:=bitLen_le hx;refine ai func234 Y Y ?_;refine .Z Y<|.seq<|.seq<|.md [0,1,2,6] Y (λ K L' w'=>Weak ([(18,(.bool (decide (((m<0)\/(64<m))\/(m<(Lib.bitLen (x)))))))]++K) L'/\Sat w0 hs.L w') ?_ ?_
 ·refine .region<|.z 3 Y<|.B 9 Y (λ g1=>?_) λ g1=>?_
  ·refine .Z Y ?_;exact⟨⟨If some (If Value.bool (by simp[g1])),Y,Y,Y,Y,trivial⟩,hs⟩
  refine .z 4 Y<|.B 13 Y (λ g2=>?_) λ g2=>?_
  ·refine .Z Y ?_;exact⟨⟨If some (If Value.bool (by simp[g1,g2])),Y,Y,Y,Y,trivial⟩,hs⟩
  refine .cm 1 hs (mT (x) _ (by omega)) Y λ _ s1=>.Z Y ?_;exact⟨⟨If some (If Value.bool (by simp[g1,g2])),Y,Y,Y,Y,trivial⟩,s1⟩
 rintro L' w2 ⟨hw1,s2⟩;refine .weaken _ hw1<|.ao Y (AT (by omega))<|.skip<|.h<|.z 3 Y ?_;have A1:=s2.oc [0,1] 2;refine .c 0 (qv _ _ _ _ _ (bits) (x) (m) A1 (hx64) (hm) (hn)) Y λ r2 _ h2=>?_;obtain⟨rfl,wv1,p2⟩:=h2;have s3:=p2.join.od [0,1];refine .nil<|.Z Y<|.aB Y Y ?_;exact⟨Y,_,s3⟩
def oB(g:Nat)(v:Value)(l:List Nat)(w:World)(hc:w.cell? ⟨g,0,none⟩=some v)(hv:RdL w v (a8 .u8) l)(hn:l.length<=1000000000000):
  CallsV prog 132 [(.pointer (some ⟨g,0,none⟩))] w λ r w'=>Sat w [cL r 5 (a8 .u8) l] w':=by
 refine bY func132 Y λ hs0=>.Z Y<|.h<|.f Y (.ue (a8 .u8) ck hs0 λ v1 _ s1 _=>?_);refine .a 4 Y (.load xw Y (s1.ext _ _ hc))<|.ap 0 s1 0 (hv.ext s1.ext) Y λ v2 _ s2 _=>.Z Y<|.aB Y Y ?_;exact s2
def kA(g m:Nat)(w:World)(hc:w.cell? ⟨g,1,none⟩=some (.int .i64 (m:Int))):
  CallsV prog 190 [(.pointer (some ⟨g,0,none⟩))] w λ r w'=>r= .int .i64 (m:Int)/\Sat w [] w':=by
 refine bY func190 Y λ hs0=>.Z Y<|.h<|.a 3 Y (.load ff Y (hs0.ext _ _ hc))<|.Z Y<|.aB Y Y ?_;exact⟨Y,hs0⟩
def wz(g m:Nat)(w:World)(hc:w.cell? ⟨g,1,none⟩=some (.int .i64 (m:Int))):
  CallsV prog 130 [(.pointer (some ⟨g,0,none⟩))] w λ r w'=>r= .int .i64 (m:Int)/\Sat w [] w':=by
 refine bY func130 Y λ hs0=>.Z Y<|.h<|.cp 3 hs0 (kA _ (m) _ (hs0.ext _ _ hc)) Y λ _ s1=>.Z Y<|.aB Y Y ?_;exact⟨Y,s1⟩
