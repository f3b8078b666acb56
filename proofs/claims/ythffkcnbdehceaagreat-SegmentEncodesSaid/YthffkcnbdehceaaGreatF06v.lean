/-The walks of the functions of F06v,printed by our own program (kwgen.py) out of our descriptions (base.py). -/
import Derived.Test.YthffkcnbdehceaaGreatF42n
import Derived.Test.YthffkcnbdehceaaGreatF01
import Derived.Test.YthffkcnbdehceaaGreatM06
import Derived.Test.YthffkcnbdehceaaGreatM03
open List
open Go.Proofs.Tryz
set_option linter.unusedVariables false
set_option linter.unusedSimpArgs false
set_option linter.unusedSectionVars false
namespace Go.Proofs.YthffkcnbdehceaaGreat
open Go.RowKit Go.Kw
set_option maxRecDepth 100000
theorem pN {α:Type} {l:List α} {k:Nat} {x:α} (hx:l[k]? =some x):∃ y,0<k->l[k-1]? =some y:=by
 have h:=(AT.1 hx).1
 exact ⟨l[k-1]'(by omega),λ _=>py _⟩
theorem qv {s:ByteArray} (h:jf s=true):s.size<=120/\dw s=true/\(∀ u∈dR s.data.toList,31<u.r/\u.r≠127)/\∀ c∈s.data.toList,32<=c.toNat/\c.toNat≠127:=by
 unfold jf at h
 simp only [PY,QC,Qt] at h
 exact ⟨h.1,h.2.1,h.2.2.1,h.2.2.2⟩
theorem iw (s:ByteArray) (w:World) (hv:jf s=true):
  CallsV prog 176 [(.string s)] w λ r w'=>r= .int .i64 ((0:Nat):Int)/\Sat w [] w':=by
 obtain ⟨hz,hvn,hun,-⟩:=qv hv
 have hs0:=Sat.start w
 refine ai func176 rfl rfl ?_
 refine .Z rfl<| .seq<| .block<| .h<| .a 1 rfl (.bo underlying9 rfl)<| .Z rfl<| .aj rfl (IN (by omega))<| .h<| .cp 1 hs0 (gY s _ (by omega)) rfl λ _ s1=> .e rfl (.cO rfl)<| .Z rfl<| .aj rfl (by simp [hvn])<| .skip<| .seq<| .h<| .b 1 rfl (.sI underlying9 s1 rfl λ it1 _ s2=> ?_)
 refine .nil<| .block<| .lq [0,14] rfl (α:=Nat) (λ i=>[]) (λ i w'=>Sat w [oh it1 s (i)] w'/\(∀ u∈cY s.data.toList i,31<u.r/\u.r≠127)) (λ i=>s.size-i) 0 ⟨s2,hun⟩ ?_
 rintro i w3 ⟨s3,hun⟩
 refine .h<| .f rfl (.wL (i:=0) s3 rfl rfl ?_ ?_)
 ·intro hnx1
  refine .Z rfl<| .seq<| .aj rfl (rfl)<| .ao<| .Z rfl<| .aC rfl rfl ?_
  exact ⟨rfl,s3.pk []⟩
 intro w4 hnx1 s4
 have s4:=s4.nn
 refine .Z rfl<| .seq<| .ea rfl (rfl)<| .skip<| .block<| .seq ?_
 have hu0:=hun _ (by rw [iL hnx1];exact QD)
 dsimp only at hu0
 refine .U rfl<| .seq<| .bN 23 (((dec (s.data.toList.drop i)).1<=31)\/((dec (s.data.toList.drop i)).1=127)) ?_ ?_
 ·refine .z 3 rfl<| .B 20 rfl (λ g1=> ?_) λ g1=> ?_
  ·refine .M rfl (by simp [g1])
  refine .M rfl (by simp [g1])
 refine .aj rfl (IN (by omega))<| .skip ?_
 exact ⟨i+(dec (s.data.toList.drop i)).2,(wk rfl),⟨s4,λ u hu=>hun u (by rw [iL hnx1];exact Qr _ hu)⟩,(show (s.size-(i+(dec (s.data.toList.drop i)).2))<(s.size-i) from by have:=cw (s.data.toList.drop i);have:=dP hnx1;omega)⟩
theorem gx (s:ByteArray) (w:World) (hv:jf s=true):
  CallsV prog 196 [(.string s)] w λ r w'=>r= .int .i64 ((0:Nat):Int)/\Sat w [] w':=by
 obtain ⟨hz,hvn,-,hby⟩:=qv hv
 have hs0:=Sat.start w
 refine ai func196 rfl rfl ?_
 refine .Z rfl<| .seq<| .h<| .a 1 rfl (.bo underlying9 rfl)<| .Z rfl<| .aj rfl (IN (by omega))<| .skip<| .seq<| .h<| .cp 1 hs0 (mJ s _ (by omega)) rfl λ _ s1=> .e rfl (.cO rfl)<| .nil<| .aj rfl (by simp [hvn])<| .skip<| .seq<| .h<| .b 1 rfl (.gn underlying9 underlying45 underlying5 s1 rfl (by omega) λ v1 _ s2=> ?_)
 refine .ln 0 (s2.o3 0 rfl) rfl<| .Z rfl<| .block<| .lq [0,12,13] rfl (α:=Nat) (λ k=>[(14,(.int .i64 k))]) (λ k w'=>Sat w s2.L w') (λ k=>(bF s).length-k) 0 s2 ?_
 rintro k w3 s3
 refine .Z rfl<| .seq<| .ae rfl (λ c1=> ?_) λ c1=> ?_
 ·refine .skip<| .seq<| .block<| .seq ?_
  obtain ⟨x,hx⟩:∃ x,(bF s)[k]? =some x:=⟨_,py c1⟩
  obtain ⟨c,hc,hcx⟩:=Qn.1 (show x∈s.data.toList.map UInt8.toNat from a7 hx)
  have hxb:=hby c hc
  have hsl:=ay s
  refine .region<| .ix 0 (s3.o3 0 rfl) rfl<| .le 0 (s3.o3 0 rfl) hx rfl<| .Z rfl<| .seq<| .bN 23 ((x<32)\/(x=127)) ?_ ?_
  ·refine .z 3 rfl<| .B 20 rfl (λ g1=> ?_) λ g1=> ?_
   ·refine .M rfl (by simp [g1])
   refine .M rfl (by simp [g1])
  refine .aj rfl (IN (by omega))<| .skip<| .U rfl ?_
  exact aT (k+1) s3
 refine .ao<| .Z rfl<| .aC rfl rfl ?_
 exact ⟨rfl,s3.pk []⟩
theorem Ec (s:ByteArray) (a b:Nat):(s.extract a b).data.toList=(s.data.toList.take b).drop a:=by
 rw [Lib.extract_data,drop_take]
theorem I6 {s:ByteArray} (h:s.data.toList[0]? =some 124) (hn:s.size<2):s=ByteArray.mk #[124]:=by
 have e:s.data.toList.length=s.size:=rfl
 cases s with
 |mk d=>
  cases d with
  |mk l=>
   match l,h,e with
   |[c],h,_=>simp at h;subst h;rfl
   |c::d::r,_,e=>simp at e;omega
theorem uL {s:List UInt8} {i:Nat} {b:UInt8} (hb:s[i]? =some b) (h:b.toNat≠124):lx s (i+1)=lx s i:=by
 rw [lx,M2]
 rintro ⟨_,h2⟩
 rw [hb] at h2
 cases h2;exact h rfl
theorem pO {s:List UInt8} {i:Nat} {b:UInt8} (hi:1<=i) (hb:s[i]? =some b) (h:¬ b.toNat≠124):lx s (i+1)=(i+1,(lx s i).2++[(s.take i).drop (lx s i).1]):=by
 have e:b=124:=SI.1 (show b.toNat=(124:UInt8).toNat from Qf.1 h)
 rw [lx,PI ⟨by omega,by rw [hb,e]⟩]
theorem Ed (s:ByteArray) (w:World) (hset:yd s):
  CallsV prog 177 [(.string s)] w λ r w'=>∃ v,r= .tuple #[v,.int .i64 ((0:Nat):Int)]/\Sat w [] w':=by
 have hsz0:=ik hset.1
 have hsz1:1<=s.size:=(AT.1 hset.2.1).1
 have hs0:=Sat.start w
 refine ai func177 rfl rfl ?_
 refine .Z rfl<| .seq<| .h<| .cp 1 hs0 (iw s _ (hset.1)) rfl λ _ s1=> .Z rfl<| .Z rfl<| .aj rfl (rfl)<| .skip<| .seq<| .h<| .a 1 rfl (.eF rfl rfl)<| .nil<| .ae rfl (λ c1=> ?_) λ c1=> ?_
 ·refine .Z rfl<| .cj rfl rfl rfl ?_
  exact ⟨_,rfl,s1.pk []⟩
 refine .skip<| .seq<| .h<| .a 1 rfl (.bo underlying9 rfl)<| .z 2 rfl<| .Gf 19 rfl (IN (λ h=>c1 (I6 hset.2.1 h)))<| .a 1 rfl (.eW underlying9 rfl rfl hset.2.1)<| .z 3 rfl<| .Gf 24 rfl (IN (λ h=>h rfl))<| .a 2 rfl (.bo underlying9 rfl)<| .a 1 rfl (.eW underlying9 rfl rfl hset.2.2.1)<| .Z rfl<| .aj rfl (IN (λ h=>h rfl))<| .skip<| .Z rfl<| .seq<| .Z rfl<| .block ?_
 have s3:=s1.aA 9 (ax)
 refine .lp [0,4] rfl (α:=Nat×Value×List ByteArray) (λ (i,ov,L)=>[(5,ov),(6,(.int .i64 ((lx s.data.toList i).1:Nat))),(7,(.int .i64 i))]) (λ (i,ov,L) w'=>Sat w [cL ov 9 (ax) (L)] w'/\(1<=i)/\(L.map (·.data.toList)=(lx s.data.toList i).2)/\(i<=s.size)/\(L.length<=i)) (λ (i,ov,L)=>s.size-i) (1,(.slice none 0 0),[]) ⟨rfl,If some (If (Value.int .i64) (by simp [lx])),rfl,rfl,rfl,trivial⟩ ⟨s3,KB _,by simp [lx],hsz1,KD _⟩ ?_
 rintro ⟨i,ov,L⟩ w2 ⟨s4,hi,hL,hle,hLl⟩
 refine .seq<| .h<| .a 2 rfl (.bo underlying9 rfl)<| .Z rfl<| .ae rfl (λ c2=> ?_) λ c2=> ?_
 ·refine .skip<| .seq<| .block<| .seq<| .seq ?_
  obtain ⟨b,hb⟩:∃ b,s.data.toList[i]? =some b:=⟨_,py (show i<s.data.toList.length from c2)⟩
  refine .region<| .a 2 rfl (.eW underlying9 rfl rfl hb)<| .Z rfl<| .ae rfl (λ c3=> ?_) λ c3=> ?_
  ·refine .ao<| .U rfl ?_
   exact ⟨(i+1,ov,L),⟨rfl,If (λ q:Nat×List (List UInt8)=>some (Value.int .i64 (q.1:Int))) (uL hb c3).symm,rfl,rfl,rfl,trivial⟩,⟨s4,by omega,by rw [uL hb c3];exact hL,by omega,by omega⟩,by dsimp only;omega⟩
  refine .skip<| .seq<| .seq ?_
  have hfl:=As s.data.toList i
  have hbb:=c3
  refine .U rfl<| .aj rfl (IN (λ h=>hset.2.2.2.1 i hi (by rw [hb,show b=124 from SI.1 (Qf.1 hbb)]) h.symm))<| .skip<| .h<| .a 4 rfl (.fI (l:=(lx s.data.toList i).1) (h:=i) underlying9 rfl ⟨_,rfl⟩ ⟨_,rfl⟩ (by omega) (by omega))<| .f rfl (.bU (ax) (s.extract ((lx s.data.toList i).1) i) bu rfl s4 rfl λ v1 _ s5 _=> ?_)
  refine .ap 0 s5 0 (s5.ah 1 rfl) rfl λ v2 _ s6 _=> ?_
  refine .Z rfl<| .U rfl<| .U rfl ?_
  exact ⟨(i+1,v2,L++[(s.extract ((lx s.data.toList i).1) i)]),⟨rfl,If (λ q:Nat×List (List UInt8)=>some (Value.int .i64 (q.1:Int))) (pO hi hb c3).symm,rfl,rfl,rfl,trivial⟩,⟨s6.pk [0],by omega,by rw [pO hi hb c3,Ql,hL];exact If _ (If (λ q=>[q]) (Ec s _ i)),by omega,by rw [sp];simp only [KM];omega⟩,by dsimp only;omega⟩
 refine .ao<| .seq<| .seq ?_
 have hLz:L.map (·.data.toList)=(lx s.data.toList s.size).2:=by rw [show s.size=i by omega];exact hL
 refine .U rfl<| .block<| .lq [0,4,5,6,7] rfl (α:=Nat) (λ j=>[(8,(.int .i64 j))]) (λ j w'=>Sat w s4.L w'/\(1<=j)) (λ j=>L.length-j) 1 ⟨s4,KB _⟩ ?_
 rintro j w5 ⟨s7,hj⟩
 refine .seq<| .h<| .ln 2 (s7.ah 0 rfl) rfl<| .Z rfl<| .ae rfl (λ c4=> ?_) λ c4=> ?_
 ·refine .skip<| .seq<| .block<| .seq ?_
  obtain ⟨y,hy⟩:∃ y,L[j-1]? =some y:=⟨_,py (by omega)⟩
  obtain ⟨x,hx⟩:∃ x,L[j]? =some x:=⟨_,py c4⟩
  have hlt:SLt y x:=hset.2.2.2.2 (j-1) y.data.toList x.data.toList (by rw [<-hLz,PX,hy]<;>rfl) (by rw [<-hLz,PX,show j-1+1=j by omega,hx]<;>rfl)
  refine .dk [0] s7 rfl (pl [0,1,2,3,4,5,6,7,8,9] .fin) λ s8 S1=> .ix 3 S1 (·.ah 0 rfl) rfl<| .le 0 S1 (·.ah 0 rfl) hy rfl<| .ix 2 S1 (·.ah 0 rfl) rfl<| .le 0 S1 (·.ah 0 rfl) hx rfl<| .e rfl (λ _ hS=> .sC rfl rfl) S1<| .fin<| .aj rfl (IN (λ h=>h hlt))<| .skip<| .U rfl ?_
  exact aT (j+1) ⟨s8,by omega⟩
 refine .ao<| .Z rfl<| .cj rfl rfl rfl ?_
 exact ⟨_,rfl,s7.pk []⟩
theorem zp (s:ByteArray) (w:World) (hset:yd s):
  CallsV prog 195 [(.string s)] w λ r w'=>∃ v,r= .tuple #[v,.int .i64 ((0:Nat):Int)]/\Sat w [] w':=by
 have hsz0:=ik hset.1
 have hsz1:1<=s.size:=(AT.1 hset.2.1).1
 have hs0:=Sat.start w
 refine ai func195 rfl rfl ?_
 refine .Z rfl<| .seq<| .h<| .cp 1 hs0 (gx s _ (hset.1)) rfl λ _ s1=> .Z rfl<| .Z rfl<| .aj rfl (rfl)<| .skip<| .h<| .a 1 rfl (.bo underlying9 rfl)<| .Z rfl<| .seq<| .h<| .z 3 rfl<| .Gf 19 rfl (IN (by omega))<| .a 1 rfl (.eW underlying9 rfl rfl hset.2.1)<| .z 3 rfl<| .Gf 24 rfl (IN (λ h=>h rfl))<| .a 3 rfl (.eW underlying9 rfl rfl hset.2.2.1)<| .Z rfl<| .aj rfl (IN (λ h=>h rfl))<| .skip<| .Z rfl<| .Z rfl<| .seq<| .Z rfl<| .block ?_
 have s2:=s1.aA 9 (ax)
 refine .lp [0,4,5] rfl (α:=Nat×Value×List ByteArray) (λ (i,ov,L)=>[(6,ov),(7,(.int .i64 ((lx s.data.toList i).1:Nat))),(8,(.int .i64 i))]) (λ (i,ov,L) w'=>Sat w [cL ov 9 (ax) (L)] w'/\(1<=i)/\(L.map (·.data.toList)=(lx s.data.toList i).2)/\(i<=s.size)/\(L.length<=i)) (λ (i,ov,L)=>s.size-i) (1,(.slice none 0 0),[]) ⟨rfl,If some (If (Value.int .i64) (by simp [lx])),rfl,rfl,rfl,rfl,trivial⟩ ⟨s2,KB _,by simp [lx],hsz1,KD _⟩ ?_
 rintro ⟨i,ov,L⟩ w2 ⟨s3,hi,hL,hle,hLl⟩
 refine .seq<| .Z rfl<| .ae rfl (λ c1=> ?_) λ c1=> ?_
 ·refine .skip<| .seq<| .block<| .seq<| .seq ?_
  obtain ⟨b,hb⟩:∃ b,s.data.toList[i]? =some b:=⟨_,py (show i<s.data.toList.length from c1)⟩
  refine .region<| .a 2 rfl (.eW underlying9 rfl rfl hb)<| .Z rfl<| .ae rfl (λ c2=> ?_) λ c2=> ?_
  ·refine .ao<| .U rfl ?_
   exact ⟨(i+1,ov,L),⟨rfl,If (λ q:Nat×List (List UInt8)=>some (Value.int .i64 (q.1:Int))) (uL hb c2).symm,rfl,rfl,rfl,rfl,trivial⟩,⟨s3,by omega,by rw [uL hb c2];exact hL,by omega,by omega⟩,by dsimp only;omega⟩
  refine .skip<| .seq<| .seq ?_
  have hfl:=As s.data.toList i
  have hbb:=c2
  refine .U rfl<| .aj rfl (IN (λ h=>hset.2.2.2.1 i hi (by rw [hb,show b=124 from SI.1 (Qf.1 hbb)]) h.symm))<| .skip<| .h<| .a 4 rfl (.fI (l:=(lx s.data.toList i).1) (h:=i) underlying9 rfl ⟨_,rfl⟩ ⟨_,rfl⟩ (by omega) (by omega))<| .f rfl (.bU (ax) (s.extract ((lx s.data.toList i).1) i) bu rfl s3 rfl λ v1 _ s4 _=> ?_)
  refine .ap 0 s4 0 (s4.ah 1 rfl) rfl λ v2 _ s5 _=> ?_
  refine .Z rfl<| .U rfl<| .U rfl ?_
  exact ⟨(i+1,v2,L++[(s.extract ((lx s.data.toList i).1) i)]),⟨rfl,If (λ q:Nat×List (List UInt8)=>some (Value.int .i64 (q.1:Int))) (pO hi hb c2).symm,rfl,rfl,rfl,rfl,trivial⟩,⟨s5.pk [0],by omega,by rw [pO hi hb c2,Ql,hL];exact If _ (If (λ q=>[q]) (Ec s _ i)),by omega,by rw [sp];simp only [KM];omega⟩,by dsimp only;omega⟩
 refine .ao<| .seq<| .seq ?_
 have hLz:L.map (·.data.toList)=(lx s.data.toList s.size).2:=by rw [show s.size=i by omega];exact hL
 refine .U rfl<| .block<| .lq [0,4,5,6,7,8] rfl (α:=Nat) (λ j=>[(9,(.int .i64 j))]) (λ j w'=>Sat w s3.L w'/\(1<=j)) (λ j=>L.length-j) 1 ⟨s3,KB _⟩ ?_
 rintro j w5 ⟨s6,hj⟩
 refine .seq<| .h<| .ln 2 (s6.ah 0 rfl) rfl<| .Z rfl<| .ae rfl (λ c3=> ?_) λ c3=> ?_
 ·refine .skip<| .seq<| .block<| .seq ?_
  obtain ⟨y,hy⟩:∃ y,L[j-1]? =some y:=⟨_,py (by omega)⟩
  obtain ⟨x,hx⟩:∃ x,L[j]? =some x:=⟨_,py c3⟩
  have hlt:SLt y x:=hset.2.2.2.2 (j-1) y.data.toList x.data.toList (by rw [<-hLz,PX,hy]<;>rfl) (by rw [<-hLz,PX,show j-1+1=j by omega,hx]<;>rfl)
  refine .dk [0] s6 rfl (pl [0,1,2,3,4,5,6,7,8,9] .fin) λ s7 S1=> .ix 3 S1 (·.ah 0 rfl) rfl<| .le 0 S1 (·.ah 0 rfl) hy rfl<| .ix 2 S1 (·.ah 0 rfl) rfl<| .le 0 S1 (·.ah 0 rfl) hx rfl<| .e rfl (λ _ hS=> .sC rfl rfl) S1<| .fin<| .aj rfl (IN (λ h=>h hlt))<| .skip<| .U rfl ?_
  exact aT (j+1) ⟨s7,by omega⟩
 refine .ao<| .Z rfl<| .cj rfl rfl rfl ?_
 exact ⟨_,rfl,s6.pk []⟩
theorem Cr (a:ByteArray×Bool) (v:ByteArray) (w:World) (h:okV a v):
  CallsV prog 113 [((cE).ag a),(.string v)] w λ r w'=>r= .int .i64 ((0:Nat):Int)/\Sat w [] w':=by
 refine cg func113 rfl λ hs0=> .h<| .bx 0 hs0 rfl λ b1 _ s1 _ _=> .Z rfl<| .seq<| .h<| .ld 1 s1 0 rfl<| .e rfl (.cO rfl)<| .nil<| .cond rfl (λ c1=> ?_) (λ c1=> ?_)
 ·refine .h<| .cp 1 s1 (iw v _ (h.val)) rfl λ _ s2=> .Z rfl<| .aC rfl rfl ?_
  exact ⟨rfl,s2.pk []⟩
 refine .skip<| .h<| .c 1 (Ed v _ (h.2 (by simpa using c1))) rfl λ r2 _ h2=> ?_
 obtain ⟨pv1,rfl,p2⟩:=h2
 have s4:=s1.az p2
 refine .Z rfl<| .Z rfl<| .aC rfl rfl ?_
 exact ⟨rfl,s4.pk []⟩
theorem zq (a:ByteArray×Bool) (v:ByteArray) (w:World) (h:okV a v):
  CallsV prog 135 [((cE).ag a),(.string v)] w λ r w'=>r= .int .i64 ((0:Nat):Int)/\Sat w [] w':=by
 refine cg func135 rfl λ hs0=> .h<| .bx 0 hs0 rfl λ b1 _ s1 _ _=> .Z rfl<| .seq<| .h<| .ld 1 s1 0 rfl<| .nil<| .cond rfl (λ c1=> ?_) (λ c1=> ?_)
 ·refine .h<| .c 1 (zp v _ (h.2 (by simpa using c1))) rfl λ r1 _ h1=> ?_
  obtain ⟨pv1,rfl,p1⟩:=h1
  have s2:=s1.az p1
  refine .Z rfl<| .Z rfl<| .aC rfl rfl ?_
  exact ⟨rfl,s2.pk []⟩
 refine .skip<| .h<| .cp 1 s1 (gx v _ (h.val)) rfl λ _ s4=> .Z rfl<| .aC rfl rfl ?_
 exact ⟨rfl,s4.pk []⟩
theorem pc (v:Value) (l:List Pr) (w:World) (hv:RdL w v aU l) (h:okPs l):
  CallsV prog 115 [v] w λ r w'=>r= .int .i64 ((0:Nat):Int)/\Sat w [] w':=by
 refine cg func115 rfl λ hs0=> .Z rfl<| .seq<| .seq ?_
 have hl8:=h.1
 refine .region<| .ln 1 (hv.ext hs0.ext) rfl<| .Z rfl<| .aj rfl (IN (by have:=h.1;omega))<| .skip<| .seq<| .h<| .ln 1 (hv.ext hs0.ext) rfl<| .Z rfl<| .block<| .lq [0,9,10] rfl (α:=Nat) (λ k=>[(11,(.int .i64 k))]) (λ k w'=>Sat w [] w') (λ k=>l.length-k) 0 hs0 ?_
 rintro k w1 s1
 refine .Z rfl<| .seq<| .ae rfl (λ c1=> ?_) λ c1=> ?_
 ·refine .skip<| .seq<| .block<| .seq ?_
  obtain ⟨x,hx⟩:∃ x,(l)[k]? =some x:=⟨_,py c1⟩
  have hxo:=h.2.1 x (a7 hx)
  refine .region<| .ix 1 (hv.ext s1.ext) rfl<| .lg 0 (hv.ext s1.ext) hx rfl<| .al 0 s1 rfl λ b1 _ s2 _ _=> .sa 1 s2 0 rfl ((aU).one _) λ _ s3 _=> .nil<| .seq<| .block<| .h<| .ld 1 s3 0 rfl<| .cq 0 s3 (dH x.1 _) rfl λ _ s4=> .e rfl (.cO rfl)<| .Z rfl<| .aj rfl (by simp [hxo.1])<| .seq ?_
  obtain ⟨y,hy⟩:=pN hx
  refine .md [0,3,4,9,10,11] rfl (λ K L' w'=>Weak ([(21,(.bool (decide ((0<k)/\(¬ SLt y.1 x.1)))))]++K) L'/\Sat w s4.L w') ?_ ?_
  ·refine .dk [0] s4 rfl (pl [0,1,2,3,4,5,6,7,8,9,10,11,12,13] .fin) λ s5 S1=> .z 3 S1 rfl<| .B 24 rfl (λ g1=> ?_) λ g1=> ?_
   ·refine .ix 3 S1 (hv.ext ·.ext) rfl<| .fl 0 S1 (hv.ext ·.ext) rfl<| .lf 0 S1 (hv.ext ·.ext) (hy (by omega)) rfl<| .ld 1 S1 0 rfl<| .a 0 S1 rfl (λ _ s=> .sC rfl rfl)<| .Z S1 rfl ?_
    exact ⟨⟨If some (If Value.bool (by simp [g1])),rfl,rfl,rfl,rfl,rfl,rfl,trivial⟩,s5⟩
   refine .Z S1 rfl ?_
   exact ⟨⟨If some (If Value.bool (by simp [g1])),rfl,rfl,rfl,rfl,rfl,rfl,trivial⟩,s5⟩
  rintro L' w5 ⟨hw1,s6⟩
  refine .weaken _ hw1<| .aj rfl (IN (λ h9=>h9.2 (h.2.2 (k-1) y x (hy h9.1) (by rw [show k-1+1=k by omega];exact hx))))<| .skip<| .h<| .ld 1 s6 0 rfl<| .cp 0 s6 (iw x.2 _ (hxo.2)) rfl λ _ s7=> .Z rfl<| .Z rfl<| .aj rfl (rfl)<| .skip<| .U rfl ?_
  exact aT (k+1) (s7.pk [])
 refine .ao<| .Z rfl<| .aC rfl rfl ?_
 exact ⟨rfl,s1.pk []⟩
theorem tj (v:Value) (l:List Pr) (w:World) (hv:RdL w v aU l) (h:okPs l):
  CallsV prog 136 [v] w λ r w'=>r= .int .i64 ((0:Nat):Int)/\Sat w [] w':=by
 refine cg func136 rfl λ hs0=> .Z rfl<| .seq<| .seq ?_
 have hl8:=h.1
 refine .region<| .ln 1 (hv.ext hs0.ext) rfl<| .Z rfl<| .aj rfl (IN (by have:=h.1;omega))<| .skip<| .seq<| .h<| .ln 1 (hv.ext hs0.ext) rfl<| .Z rfl<| .block<| .lq [0,9,10] rfl (α:=Nat) (λ k=>[(11,(.int .i64 k))]) (λ k w'=>Sat w [] w') (λ k=>l.length-k) 0 hs0 ?_
 rintro k w1 s1
 refine .Z rfl<| .seq<| .ae rfl (λ c1=> ?_) λ c1=> ?_
 ·refine .skip<| .seq<| .block<| .seq ?_
  obtain ⟨x,hx⟩:∃ x,(l)[k]? =some x:=⟨_,py c1⟩
  have hxo:=h.2.1 x (a7 hx)
  refine .region<| .ix 1 (hv.ext s1.ext) rfl<| .lg 0 (hv.ext s1.ext) hx rfl<| .al 0 s1 rfl λ b1 _ s2 _ _=> .sa 1 s2 0 rfl ((aU).one _) λ _ s3 _=> .nil<| .seq<| .block<| .h<| .ld 1 s3 0 rfl<| .cq 0 s3 (dO x.1 _) rfl λ _ s4=> .e rfl (.cO rfl)<| .Z rfl<| .aj rfl (by simp [hxo.1])<| .seq ?_
  obtain ⟨y,hy⟩:=pN hx
  refine .md [0,3,4,9,10,11] rfl (λ K L' w'=>Weak ([(21,(.bool (decide ((0<k)/\(¬ SLt y.1 x.1)))))]++K) L'/\Sat w s4.L w') ?_ ?_
  ·refine .dk [0] s4 rfl (pl [0,1,2,3,4,5,6,7,8,9,10,11,12,13] .fin) λ s5 S1=> .z 3 S1 rfl<| .B 24 rfl (λ g1=> ?_) λ g1=> ?_
   ·refine .ix 3 S1 (hv.ext ·.ext) rfl<| .fl 0 S1 (hv.ext ·.ext) rfl<| .lf 0 S1 (hv.ext ·.ext) (hy (by omega)) rfl<| .ld 1 S1 0 rfl<| .a 0 S1 rfl (λ _ s=> .sC rfl rfl)<| .Z S1 rfl ?_
    exact ⟨⟨If some (If Value.bool (by simp [g1])),rfl,rfl,rfl,rfl,rfl,rfl,trivial⟩,s5⟩
   refine .Z S1 rfl ?_
   exact ⟨⟨If some (If Value.bool (by simp [g1])),rfl,rfl,rfl,rfl,rfl,rfl,trivial⟩,s5⟩
  rintro L' w5 ⟨hw1,s6⟩
  refine .weaken _ hw1<| .aj rfl (IN (λ h9=>h9.2 (h.2.2 (k-1) y x (hy h9.1) (by rw [show k-1+1=k by omega];exact hx))))<| .skip<| .h<| .ld 1 s6 0 rfl<| .cp 0 s6 (gx x.2 _ (hxo.2)) rfl λ _ s7=> .Z rfl<| .Z rfl<| .aj rfl (rfl)<| .skip<| .U rfl ?_
  exact aT (k+1) (s7.pk [])
 refine .ao<| .Z rfl<| .aC rfl rfl ?_
 exact ⟨rfl,s1.pk []⟩
theorem gp {a b:List Pr} {k:Nat} {p q:Pr} (hp:a[k]? =some p) (hq:b[k]? =some q):jg (a.drop k) (b.drop k)=if eB p.1 q.1≠0 then eB p.1 q.1 else if eB p.2 q.2≠0 then eB p.2 q.2 else jg (a.drop (k+1)) (b.drop (k+1)):=by
 obtain ⟨h1,rfl⟩:=AT.1 hp
 obtain ⟨h2,rfl⟩:=AT.1 hq
 rw [QL h1,QL h2,jg]
theorem qw {a b:List Pr} {k:Nat} (h1:k<=a.length) (h2:k<=b.length) (h:¬ (k<a.length/\k<b.length)):jg (a.drop k) (b.drop k)=dS (a.length:Int) (b.length:Int):=by
 unfold dS
 rcases Q1 k a.length with q|q
 ·have e:k=b.length:=by omega
  rw [QL q,show b.drop k=[] from QB (by omega),jg,M2 (by omega),PI (by omega)]
 rw [QB q]
 rcases Q1 k b.length with q2|q2
 ·rw [QL q2,jg,PI (by omega)]
 rw [QB q2,jg,M2 (by omega),M2 (by omega)]
theorem uM {a b:ByteArray} (h:a≠b):eB a b≠0:=λ h9=>h (Dw h9)
theorem uN (a b:Int) (w:World):
  CallsV prog 178 [(.int .i64 (a)),(.int .i64 (b))] w λ r w'=>r= .int .i64 (dS a b)/\Sat w [] w':=by
 refine cg func178 rfl λ hs0=> .Z rfl<| .seq<| .block<| .h<| .a 2 rfl (.lss rfl rfl)<| .Z rfl<| .ae rfl (λ c1=> ?_) λ c1=> ?_
 ·refine .Z rfl<| .aC rfl rfl ?_
  exact ⟨by unfold dS;rw [PI c1],hs0.pk []⟩
 refine .h<| .a 2 rfl (.gtr rfl rfl)<| .Z rfl<| .ae rfl (λ c2=> ?_) λ c2=> ?_
 ·refine .Z rfl<| .aC rfl rfl ?_
  exact ⟨by unfold dS;rw [M2 c1,PI c2]<;>rfl,hs0.pk []⟩
 refine .skip<| .Z rfl<| .aC rfl rfl ?_
 exact ⟨by unfold dS;rw [M2 c1,M2 c2]<;>rfl,hs0.pk []⟩
theorem uO (a b:ByteArray) (w:World):
  CallsV prog 179 [(.string a),(.string b)] w λ r w'=>r= .int .i64 (eB a b)/\Sat w [] w':=by
 refine cg func179 rfl λ hs0=> .Z rfl<| .seq<| .block<| .h<| .a 2 rfl (.wO rfl rfl)<| .Z rfl<| .ae rfl (λ c1=> ?_) λ c1=> ?_
 ·refine .Z rfl<| .aC rfl rfl ?_
  exact ⟨by unfold eB;rw [PI c1],hs0.pk []⟩
 refine .h<| .a 2 rfl (.HN rfl rfl)<| .Z rfl<| .ae rfl (λ c2=> ?_) λ c2=> ?_
 ·refine .Z rfl<| .aC rfl rfl ?_
  exact ⟨by unfold eB;rw [M2 c1,PI c2]<;>rfl,hs0.pk []⟩
 refine .skip<| .Z rfl<| .aC rfl rfl ?_
 exact ⟨by unfold eB;rw [M2 c1,M2 c2]<;>rfl,hs0.pk []⟩
theorem qx (a b:ByteArray) (w:World):
  CallsV prog 173 [(.string a),(.string b)] w λ r w'=>r= .int .i64 (eB a b)/\Sat w [] w':=by
 refine cg func173 rfl λ hs0=> .Z rfl<| .seq<| .block<| .h<| .a 2 rfl (.wO rfl rfl)<| .Z rfl<| .ae rfl (λ c1=> ?_) λ c1=> ?_
 ·refine .Z rfl<| .aC rfl rfl ?_
  exact ⟨by unfold eB;rw [PI c1],hs0.pk []⟩
 refine .h<| .a 2 rfl (.HN rfl rfl)<| .Z rfl<| .ae rfl (λ c2=> ?_) λ c2=> ?_
 ·refine .Z rfl<| .aC rfl rfl ?_
  exact ⟨by unfold eB;rw [M2 c1,PI c2]<;>rfl,hs0.pk []⟩
 refine .skip<| .Z rfl<| .aC rfl rfl ?_
 exact ⟨by unfold eB;rw [M2 c1,M2 c2]<;>rfl,hs0.pk []⟩
theorem I7 (va vb:Value) (a b:List Pr) (w:World) (hva:RdL w va aU a) (hvb:RdL w vb aU b) (hla:a.length<=1000) (hlb:b.length<=1000):
  CallsV prog 180 [va,vb] w λ r w'=>r= .int .i64 (jg a b)/\Sat w [] w':=by
 refine cg func180 rfl λ hs0=> .Z rfl<| .seq<| .Z rfl<| .block<| .lq [0,1] rfl (α:=Nat) (λ k=>[(5,(.int .i64 k))]) (λ k w'=>Sat w [] w'/\(k<=a.length)/\(k<=b.length)/\(jg a b=jg (a.drop k) (b.drop k))) (λ k=>a.length-k) 0 ⟨hs0,KD _,KD _,rfl⟩ ?_
 rintro k w1 ⟨s1,hka,hkb,hk⟩
 refine .seq<| .seq<| .bN 17 ((k<a.length)/\(k<b.length)) ?_ ?_
 ·refine .ln 2 (hva.ext s1.ext) rfl<| .z 2 rfl<| .B 12 rfl (λ g1=> ?_) λ g1=> ?_
  ·refine .ln 2 (hvb.ext s1.ext) rfl<| .M rfl (by simp [g1])
  refine .M rfl (by simp [g1])
 refine .ae rfl (λ c1=> ?_) λ c1=> ?_
 ·refine .skip<| .seq<| .block<| .seq<| .seq ?_
  obtain ⟨p,hp⟩:∃ p,a[k]? =some p:=⟨_,py c1.1⟩
  obtain ⟨q,hq⟩:∃ q,b[k]? =some q:=⟨_,py c1.2⟩
  refine .dk [] s1 rfl (pl [0,1,2,3,4,5,6,7,8,9,1010,11] .fin) λ s2 S1=> .ix 2 S1 (hva.ext ·.ext) rfl<| .fl 0 S1 (hva.ext ·.ext) rfl<| .lf 0 S1 (hva.ext ·.ext) hp rfl<| .ix 2 S1 (hvb.ext ·.ext) rfl<| .fl 0 S1 (hvb.ext ·.ext) rfl<| .lf 0 S1 (hvb.ext ·.ext) hq rfl<| .c 0 S1 (uO (p.1) (q.1) _) rfl λ r1 _ h1=> ?_
  obtain ⟨rfl,p1⟩:=h1
  have s3:=s2.az p1
  have S2:=s3.pk []
  refine ⟨S2,?_⟩
  refine .Z S2 rfl<| .h<| .a 1 rfl (.neq rfl rfl)<| .nil<| .ae rfl (λ c2=> ?_) λ c2=> ?_
  ·refine .Z rfl<| .aC rfl rfl ?_
   exact ⟨by rw [hk,gp hp hq,PI c2],s3.pk []⟩
  refine .skip<| .seq<| .dk [] s3 rfl (pl [0,1,2,3,4,5,6,7,8,9,1010,11] .fin) λ s5 S3=> .ix 2 S3 (hva.ext ·.ext) rfl<| .fl 0 S3 (hva.ext ·.ext) rfl<| .lf 0 S3 (hva.ext ·.ext) hp rfl<| .ix 2 S3 (hvb.ext ·.ext) rfl<| .fl 0 S3 (hvb.ext ·.ext) rfl<| .lf 0 S3 (hvb.ext ·.ext) hq rfl<| .c 0 S3 (uO (p.2) (q.2) _) rfl λ r2 _ h2=> ?_
  obtain ⟨rfl,p2⟩:=h2
  have s6:=s5.az p2
  have S4:=s6.pk []
  refine ⟨S4,?_⟩
  refine .Z S4 rfl<| .h<| .a 1 rfl (.neq rfl rfl)<| .nil<| .ae rfl (λ c3=> ?_) λ c3=> ?_
  ·refine .Z rfl<| .aC rfl rfl ?_
   exact ⟨by rw [hk,gp hp hq,M2 c2,PI c3],s6.pk []⟩
  refine .skip<| .U rfl ?_
  exact aT (k+1) ⟨s6,by omega,by omega,by rw [hk,gp hp hq,M2 c2,M2 c3]⟩
 refine .ao<| .h<| .ln 1 (hva.ext s1.ext) rfl<| .ln 1 (hvb.ext s1.ext) rfl<| .cp 0 s1 (uN ((a.length:Nat):Int) ((b.length:Nat):Int) _) rfl λ _ s8=> .Z rfl<| .aC rfl rfl ?_
 exact ⟨by rw [hk,qw hka hkb c1],s8.pk []⟩
theorem I8 (x y:Iv) (w:World) (hvx:RdL w x.sv.val aU x.ps) (hvy:RdL w y.sv.val aU y.ps) (hlx:x.ps.length<=1000) (hly:y.ps.length<=1000):
  CallsV prog 117 [((aG).ag x),((aG).ag y)] w λ r w'=>r= .int .i64 (ep x y)/\Sat w [] w':=by
 have hs0:=Sat.start w
 refine ai func117 rfl rfl ?_
 refine .h<| .bx 0 hs0 rfl λ b1 _ s1 _ _=> .bx 0 s1 rfl λ b2 _ s2 _ _=> .Z rfl<| .seq<| .h<| .ld 1 s2 0 rfl<| .ld 1 s2 1 rfl<| .cq 0 s2 (uN (x.b) (y.b) _) rfl λ _ s3=> .Z rfl<| .h<| .a 1 rfl (.neq rfl rfl)<| .nil<| .ae rfl (λ c1=> ?_) λ c1=> ?_
 ·refine .Z rfl<| .aC rfl rfl ?_
  exact ⟨by unfold ep;rw [PI c1],s3.pk []⟩
 refine .skip<| .seq<| .h<| .ld 1 s3 1 rfl<| .ld 1 s3 0 rfl<| .cp 0 s3 (uN (y.e) (x.e) _) rfl λ _ s5=> .Z rfl<| .h<| .a 1 rfl (.neq rfl rfl)<| .nil<| .ae rfl (λ c2=> ?_) λ c2=> ?_
 ·refine .Z rfl<| .aC rfl rfl ?_
  exact ⟨by unfold ep;rw [M2 c1,PI c2],s5.pk []⟩
 refine .skip<| .seq<| .h<| .ld 1 s5 0 rfl<| .ld 1 s5 1 rfl<| .cp 0 s5 (uO (x.nm) (y.nm) _) rfl λ _ s7=> .Z rfl<| .h<| .a 1 rfl (.neq rfl rfl)<| .nil<| .ae rfl (λ c3=> ?_) λ c3=> ?_
 ·refine .Z rfl<| .aC rfl rfl ?_
  exact ⟨by unfold ep;rw [M2 c1,M2 c2,PI c3],s7.pk []⟩
 refine .skip<| .h<| .ld 1 s7 0 rfl<| .ld 1 s7 1 rfl<| .cq 0 s7 (I7 _ _ (x.ps) (y.ps) _ (hvx.ext s7.ext) (hvy.ext s7.ext) hlx hly) rfl λ _ s9=> .Z rfl<| .aC rfl rfl ?_
 exact ⟨by unfold ep;rw [M2 c1,M2 c2,M2 c3],s9.pk []⟩
theorem qy (b:Bool) (w:World):
  CallsV prog 172 [(.bool b)] w λ r w'=>r= .int .i64 (if b then-1 else 1)/\Sat w [] w':=by
 refine cg func172 rfl λ hs0=> .Z rfl<| .seq<| .Z rfl<| .cond rfl (λ c1=> ?_) (λ c1=> ?_)
 ·refine .Z rfl<| .aC rfl rfl ?_
  exact ⟨by rw [c1]<;>rfl,hs0.pk []⟩
 refine .skip<| .Z rfl<| .aC rfl rfl ?_
 exact ⟨by rw [c1]<;>rfl,hs0.pk []⟩
theorem wU (x y:Iv) (w:World) (hvx:RdL w x.sv.val aU x.ps) (hvy:RdL w y.sv.val aU y.ps) (hlx:x.ps.length<=1000) (hly:y.ps.length<=1000):
  CallsV prog 111 [((aG).ag x),((aG).ag y)] w λ r w'=>r= .int .i64 (ep x y)/\Sat w [] w':=by
 have hs0:=Sat.start w
 refine ai func111 rfl rfl ?_
 refine .h<| .bx 0 hs0 rfl λ b1 _ s1 _ _=> .bx 0 s1 rfl λ b2 _ s2 _ _=> .Z rfl<| .seq<| .block<| .h<| .ld 1 s2 0 rfl<| .ld 1 s2 1 rfl<| .e rfl (.neq rfl rfl)<| .Z rfl<| .ae rfl (λ c1=> ?_) λ c1=> ?_
 ·refine .h<| .ld 1 s2 0 rfl<| .ld 1 s2 1 rfl<| .e rfl (.lss rfl rfl)<| .cq 0 s2 (qy (decide ((x.b:Int)<(y.b:Int))) _) rfl λ _ s3=> .Z rfl<| .aC rfl rfl ?_
  exact ⟨by unfold ep;rw [PI (show dS x.b y.b≠0 by unfold dS;omega)];unfold dS;simp only [QC];split;rfl;rw [PI (by omega)],s3.pk []⟩
 refine .h<| .ld 1 s2 0 rfl<| .ld 1 s2 1 rfl<| .e rfl (.neq rfl rfl)<| .Z rfl<| .ae rfl (λ c2=> ?_) λ c2=> ?_
 ·refine .h<| .ld 1 s2 0 rfl<| .ld 1 s2 1 rfl<| .e rfl (.gtr rfl rfl)<| .cq 0 s2 (qy (decide ((y.e:Int)<(x.e:Int))) _) rfl λ _ s5=> .Z rfl<| .aC rfl rfl ?_
  exact ⟨by unfold ep;rw [M2 (show ¬ dS x.b y.b≠0 by unfold dS;omega),PI (show dS y.e x.e≠0 by unfold dS;omega)];unfold dS;simp only [QC];split;rfl;rw [PI (by omega)],s5.pk []⟩
 refine .seq ?_
 have hci2:ep x y=if eB x.nm y.nm≠0 then eB x.nm y.nm else jg x.ps y.ps:=by unfold ep;rw [M2 (show ¬ dS x.b y.b≠0 by unfold dS;omega),M2 (show ¬ dS y.e x.e≠0 by unfold dS;omega)]
 refine .region<| .ld 1 s2 0 rfl<| .ld 1 s2 1 rfl<| .e rfl (.ed rfl rfl)<| .Z rfl<| .ae rfl (λ c3=> ?_) λ c3=> ?_
 ·refine .h<| .ld 1 s2 0 rfl<| .ld 1 s2 1 rfl<| .cq 0 s2 (qx (x.nm) (y.nm) _) rfl λ _ s7=> .Z rfl<| .aC rfl rfl ?_
  exact ⟨by rw [hci2,PI (uM c3)],s7.pk []⟩
 refine .skip<| .seq<| .seq ?_
 have hci3:ep x y=jg x.ps y.ps:=by rw [hci2,M2 (by rw [show x.nm=y.nm by simpa using c3,kZ];simp)]
 refine .U rfl<| .block<| .lq [0,1,2,3] rfl (α:=Nat) (λ k=>[(5,(.int .i64 k))]) (λ k w'=>Sat w s2.L w'/\(k<=x.ps.length)/\(k<=y.ps.length)/\(jg x.ps y.ps=jg (x.ps.drop k) (y.ps.drop k))) (λ k=>x.ps.length-k) 0 ⟨s2,KD _,KD _,rfl⟩ ?_
 rintro k w6 ⟨s9,hka,hkb,hk⟩
 refine .seq<| .seq<| .bN 52 ((k<x.ps.length)/\(k<y.ps.length)) ?_ ?_
 ·refine .ld 2 s9 0 rfl<| .ln 0 (hvx.ext s9.ext) rfl<| .z 2 rfl<| .B 46 rfl (λ g1=> ?_) λ g1=> ?_
  ·refine .ld 2 s9 1 rfl<| .ln 0 (hvy.ext s9.ext) rfl<| .M rfl (by simp [g1])
  refine .M rfl (by simp [g1])
 refine .ae rfl (λ c4=> ?_) λ c4=> ?_
 ·refine .skip<| .seq<| .block<| .seq<| .seq ?_
  obtain ⟨p,hp⟩:∃ p,x.ps[k]? =some p:=⟨_,py c4.1⟩
  obtain ⟨q,hq⟩:∃ q,y.ps[k]? =some q:=⟨_,py c4.2⟩
  refine .dk [0,1] s9 rfl (pl [0,1,2,3,4,5,6,7,8,9,10,11,12] .fin) λ s10 S1=> .ld 1 S1 0 rfl<| .ix 1 S1 (hvx.ext ·.ext) rfl<| .fl 0 S1 (hvx.ext ·.ext) rfl<| .lf 0 S1 (hvx.ext ·.ext) hp rfl<| .ld 1 S1 1 rfl<| .ix 1 S1 (hvy.ext ·.ext) rfl<| .fl 0 S1 (hvy.ext ·.ext) rfl<| .lf 0 S1 (hvy.ext ·.ext) hq rfl<| .e rfl (λ _ s=> .ed rfl rfl) S1<| .fin<| .ae rfl (λ c5=> ?_) λ c5=> ?_
  ·refine .seq<| .dk [0,1] s10 rfl (pl [0,1,2,3,4,5,6,7,8,9,10,11,1012,13] .fin) λ s11 S2=> .ld 1 S2 0 rfl<| .ix 1 S2 (hvx.ext ·.ext) rfl<| .fl 0 S2 (hvx.ext ·.ext) rfl<| .lf 0 S2 (hvx.ext ·.ext) hp rfl<| .ld 1 S2 1 rfl<| .ix 1 S2 (hvy.ext ·.ext) rfl<| .fl 0 S2 (hvy.ext ·.ext) rfl<| .lf 0 S2 (hvy.ext ·.ext) hq rfl<| .c 0 S2 (qx (p.1) (q.1) _) rfl λ r4 _ h4=> ?_
   obtain ⟨rfl,p4⟩:=h4
   have s12:=(s11.az p4).nn
   have S3:=s12.pk [0,1]
   refine ⟨S3,?_⟩
   refine .Z S3 rfl<| .aC rfl rfl ?_
   exact ⟨by rw [hci3,hk,gp hp hq,PI (uM c5)],s12.pk []⟩
  refine .skip<| .seq<| .dk [0,1] s10 rfl (pl [0,1,2,3,4,5,6,7,8,9,10,11,12] .fin) λ s14 S4=> .ld 1 S4 0 rfl<| .ix 1 S4 (hvx.ext ·.ext) rfl<| .fl 0 S4 (hvx.ext ·.ext) rfl<| .lf 0 S4 (hvx.ext ·.ext) hp rfl<| .ld 1 S4 1 rfl<| .ix 1 S4 (hvy.ext ·.ext) rfl<| .fl 0 S4 (hvy.ext ·.ext) rfl<| .lf 0 S4 (hvy.ext ·.ext) hq rfl<| .e rfl (λ _ s=> .ed rfl rfl) S4<| .fin<| .ae rfl (λ c6=> ?_) λ c6=> ?_
  ·refine .seq<| .dk [0,1] s14 rfl (pl [0,1,2,3,4,5,6,7,8,9,10,11,1012,13] .fin) λ s15 S5=> .ld 1 S5 0 rfl<| .ix 1 S5 (hvx.ext ·.ext) rfl<| .fl 0 S5 (hvx.ext ·.ext) rfl<| .lf 0 S5 (hvx.ext ·.ext) hp rfl<| .ld 1 S5 1 rfl<| .ix 1 S5 (hvy.ext ·.ext) rfl<| .fl 0 S5 (hvy.ext ·.ext) rfl<| .lf 0 S5 (hvy.ext ·.ext) hq rfl<| .c 0 S5 (qx (p.2) (q.2) _) rfl λ r5 _ h5=> ?_
   obtain ⟨rfl,p5⟩:=h5
   have s16:=(s15.az p5).nn
   have S6:=s16.pk [0,1]
   refine ⟨S6,?_⟩
   refine .Z S6 rfl<| .aC rfl rfl ?_
   exact ⟨by rw [hci3,hk,gp hp hq,M2 (by rw [show p.1=q.1 by simpa using c5,kZ];simp),PI (uM c6)],s16.pk []⟩
  refine .skip<| .U rfl ?_
  exact aT (k+1) ⟨s14,by omega,by omega,by rw [hk,gp hp hq,M2 (by rw [show p.1=q.1 by simpa using c5,kZ];simp),M2 (by rw [show p.2=q.2 by simpa using c6,kZ];simp)]⟩
 refine .ao<| .seq<| .h<| .ld 1 s9 0 rfl<| .ln 0 (hvx.ext s9.ext) rfl<| .ld 1 s9 1 rfl<| .ln 0 (hvy.ext s9.ext) rfl<| .Z rfl<| .ae rfl (λ c7=> ?_) λ c7=> ?_
 ·refine .h<| .ld 1 s9 0 rfl<| .ln 0 (hvx.ext s9.ext) rfl<| .ld 1 s9 1 rfl<| .ln 0 (hvy.ext s9.ext) rfl<| .cq 1 s9 (qy (decide (x.ps.length<y.ps.length)) _) rfl λ _ s18=> .Z rfl<| .aC rfl rfl ?_
  exact ⟨by rw [hci3,hk,qw hka hkb c4];unfold dS;simp only [QC];split;rw [PI (by omega)];rw [M2 (by omega),PI (by omega)],s18.pk []⟩
 refine .skip<| .Z rfl<| .aC rfl rfl ?_
 exact ⟨by rw [hci3,hk,qw hka hkb c4];unfold dS;rw [M2 (by omega),M2 (by omega)]<;>rfl,s9.pk []⟩
theorem Cs (c:Co) (n:Nat) (w:World) (hr:RdC w c) (ho:OkC n c) (hn:n<=3):
  CallsV prog 70 [(.agg #[c.va,c.vt,c.vx,c.vr,c.vn,c.vh,c.vl])] w λ r w'=>r= .tuple #[.int .i64 ((0:Nat):Int),.int .i64 ((0:Nat):Int)]/\Sat w [] w':=by
 have htk:=ho.ntk
 have htx:=ho.ntx
 have hrg:=ho.nrg
 have hnd:=ho.nnd
 have hat:=ho.at_.2
 have hs0:=Sat.start w
 refine ai func70 rfl rfl ?_
 refine .h<| .bx 0 hs0 rfl λ b1 _ s1 _ _=> .Z rfl<| .seq<| .block<| .h<| .ld 1 s1 0 rfl<| .ln 0 (hr.a.ext s1.ext) rfl<| .Z rfl<| .aj rfl (IN (by omega))<| .h<| .ld 1 s1 0 rfl<| .ln 0 (hr.a.ext s1.ext) rfl<| .Z rfl<| .aj rfl (IN (by omega))<| .skip<| .seq<| .h<| .ld 1 s1 0 rfl<| .ln 0 (hr.a.ext s1.ext) rfl<| .Z rfl<| .block<| .lq [0,1,19,20] rfl (α:=Nat) (λ k=>[(21,(.int .i64 k))]) (λ k w'=>Sat w s1.L w') (λ k=>c.at_.length-k) 0 s1 ?_
 rintro k w2 s2
 refine .Z rfl<| .seq<| .ae rfl (λ c1=> ?_) λ c1=> ?_
 ·refine .skip<| .seq<| .block<| .seq ?_
  obtain ⟨x,hx⟩:∃ x,(c.at_)[k]? =some x:=⟨_,py c1⟩
  refine .region<| .ix 1 (hr.a.ext s2.ext) rfl<| .lg 0 (hr.a.ext s2.ext) hx rfl<| .al 0 s2 rfl λ b2 _ s3 _ _=> .sa 1 s3 1 rfl ((cE).one _) λ _ s4 _=> ?_
  have s4:=s4.nn
  refine .nil<| .seq<| .h<| .ld 1 s4 1 rfl<| .cp 0 s4 (dH x.1 _) rfl λ _ s5=> .e rfl (.cO rfl)<| .nil<| .aj rfl (by simp [(ho.at_.1 k x hx).1])<| .skip<| .h<| .ld 1 s5 0 rfl<| .a 1 rfl (.aV (E:=cE) (a:=0) (c:=k) DU rfl (hr.a.ext s5.ext) rfl ⟨_,rfl⟩ (KD _) (by omega))<| .ln 0 (((hr.a.ext s5.ext)).sub (a:=0) (b:=k) (KD _) (by omega)) rfl<| .Z rfl<| .block<| .lq [0,1,4,5,19,20,21,34,35] rfl (α:=Nat) (λ j=>[(36,(.int .i64 j))]) (λ j w'=>Sat w s5.L w') (λ j=>(((c.at_).take k).drop 0).length-j) 0 s5 ?_
  rintro j w6 s6
  refine .Z rfl<| .seq<| .ae rfl (λ c2=> ?_) λ c2=> ?_
  ·refine .skip<| .seq<| .block<| .seq ?_
   obtain ⟨y,hy⟩:∃ y,(((c.at_).take k).drop 0)[j]? =some y:=⟨_,py c2⟩
   have hjl:(((c.at_).take k).drop 0).length<=8:=by simp;omega
   refine .region<| .ix 0 (((hr.a.ext s6.ext)).sub (a:=0) (b:=k) (KD _) (by omega)) rfl<| .lg 0 (((hr.a.ext s6.ext)).sub (a:=0) (b:=k) (KD _) (by omega)) hy rfl<| .al 0 s6 rfl λ b3 _ s7 _ _=> .sa 0 s7 2 rfl ((cE).one _) λ _ s8 _=> ?_
   have s8:=s8.nn
   refine .nil<| .h<| .ld 1 s8 2 rfl<| .ld 1 s8 1 rfl<| .e rfl (.eF rfl rfl)<| .nil<| .aj rfl (IN (ho.at_.no hx hy))<| .skip<| .U rfl ?_
   exact aT (j+1) (s8.pk [0,1])
  refine .ao<| .U rfl ?_
  exact aT (k+1) (s6.pk [0])
 refine .ao<| .Z rfl<| .cj rfl rfl rfl ?_
 exact ⟨rfl,s2.pk []⟩
theorem zt (c:Co) (n:Nat) (w:World) (hr:RdC w c) (ho:OkC n c) (hn:n<=3):
  CallsV prog 71 [(.agg #[c.va,c.vt,c.vx,c.vr,c.vn,c.vh,c.vl])] w λ r w'=>r= .tuple #[.int .i64 ((0:Nat):Int),.int .i64 ((0:Nat):Int)]/\Sat w [] w':=by
 have htk:=ho.ntk
 have htx:=ho.ntx
 have hrg:=ho.nrg
 have hnd:=ho.nnd
 have hat:=ho.at_.2
 have hs0:=Sat.start w
 refine ai func71 rfl rfl ?_
 refine .h<| .bx 0 hs0 rfl λ b1 _ s1 _ _=> .Z rfl<| .seq<| .h<| .ld 1 s1 0 rfl<| .ln 0 (hr.t.ext s1.ext) rfl<| .Z rfl<| .aj rfl (IN (by omega))<| .skip<| .seq<| .h<| .ld 1 s1 0 rfl<| .ln 0 (hr.t.ext s1.ext) rfl<| .Z rfl<| .block<| .lq [0,1,14,15] rfl (α:=Nat) (λ k=>[(16,(.int .i64 k))]) (λ k w'=>Sat w s1.L w') (λ k=>c.tk.length-k) 0 s1 ?_
 rintro k w2 s2
 refine .Z rfl<| .seq<| .ae rfl (λ c1=> ?_) λ c1=> ?_
 ·refine .skip<| .seq<| .block<| .seq ?_
  obtain ⟨x,hx⟩:∃ x,(c.tk)[k]? =some x:=⟨_,py c1⟩
  have htl:=(ho.tk x (a7 hx)).1
  refine .region<| .ix 1 (hr.t.ext s2.ext) rfl<| .le 0 (hr.t.ext s2.ext) hx rfl<| .Z rfl<| .seq<| .h<| .ln 1 ((hr.tr _ (a7 hx)).ext s2.ext) rfl<| .ld 1 s2 0 rfl<| .ln 0 (hr.a.ext s2.ext) rfl<| .Z rfl<| .aj rfl (IN (λ h=>h (ho.tk x (a7 hx)).1))<| .skip<| .h<| .ln 1 ((hr.tr _ (a7 hx)).ext s2.ext) rfl<| .Z rfl<| .block<| .lq [0,1,4,5,14,15,16,28,29] rfl (α:=Nat) (λ j=>[(30,(.int .i64 j))]) (λ j w'=>Sat w s2.L w') (λ j=>x.ns.length-j) 0 s2 ?_
  rintro j w3 s3
  refine .Z rfl<| .seq<| .ae rfl (λ c2=> ?_) λ c2=> ?_
  ·refine .skip<| .seq<| .block<| .seq ?_
   obtain ⟨v,hv⟩:∃ v,(x.ns)[j]? =some v:=⟨_,py c2⟩
   obtain ⟨a,ha⟩:∃ a,c.at_[j]? =some a:=⟨_,py (by omega)⟩
   refine .region<| .ix 1 ((hr.tr _ (a7 hx)).ext s3.ext) rfl<| .le 0 ((hr.tr _ (a7 hx)).ext s3.ext) hv rfl<| .Z rfl<| .h<| .ld 1 s3 0 rfl<| .ix 1 (hr.a.ext s3.ext) rfl<| .lg 0 (hr.a.ext s3.ext) ha rfl<| .cp 1 s3 (Cr a v _ ((ho.tk x (a7 hx)).2 j v a hv ha)) rfl λ _ s4=> .Z rfl<| .Z rfl<| .aj rfl (rfl)<| .skip<| .U rfl ?_
   exact aT (j+1) s4
  refine .ao<| .U rfl ?_
  exact aT (k+1) s3
 refine .ao<| .Z rfl<| .cj rfl rfl rfl ?_
 exact ⟨rfl,s2.pk []⟩
theorem wV (c:Co) (n m:Nat) (x:Iv) (w:World) (hr:RdC w c) (ho:OkC n c) (hn:n<=3) (hx:c.tx[m]? =some x):
  CallsV prog 114 [(.agg #[c.va,c.vt,c.vx,c.vr,c.vn,c.vh,c.vl]),(.string x.nm)] w λ r w'=>r= .int .i64 (m:Int)/\Sat w [] w':=by
 have htx:=ho.ntx
 have hml:=(AT.1 hx).1
 have hs0:=Sat.start w
 refine ai func114 rfl rfl ?_
 refine .h<| .bx 0 hs0 rfl λ b1 _ s1 _ _=> .Z rfl<| .seq<| .h<| .ld 1 s1 0 rfl<| .ln 0 (hr.x.ext s1.ext) rfl<| .Z rfl<| .block<| .lq [0,1,2,8,9] rfl (α:=Nat) (λ k=>[(10,(.int .i64 k))]) (λ k w'=>Sat w s1.L w'/\(k<=m)) (λ k=>c.tx.length-k) 0 ⟨s1,KD _⟩ ?_
 rintro k w2 ⟨s2,hk⟩
 refine .Z rfl<| .seq<| .ae rfl (λ c1=> ?_) λ c1=> ?_
 ·refine .skip<| .seq<| .block<| .seq ?_
  obtain ⟨y,hy⟩:∃ y,(c.tx)[k]? =some y:=⟨_,py c1⟩
  refine .region<| .ix 1 (hr.x.ext s2.ext) rfl<| .lg 0 (hr.x.ext s2.ext) hy rfl<| .al 0 s2 rfl λ b2 _ s3 _ _=> .sa 1 s3 1 rfl ((aG).one _) λ _ s4 _=> ?_
  have s4:=s4.nn
  refine .nil<| .h<| .ld 1 s4 1 rfl<| .a 1 rfl (.eF rfl rfl)<| .nil<| .ae rfl (λ c2=> ?_) λ c2=> ?_
  ·refine .Z rfl<| .aC rfl rfl ?_
   have e:k=m:=Nat.le_antisymm hk (RN λ q=>ho.tx.nd m k x y hx hy q c2)
   subst e
   exact ⟨rfl,s4.pk []⟩
  refine .skip<| .U rfl ?_
  exact aT (k+1) ⟨s4.pk [0],Aw hk hx hy c2⟩
 refine .ao<| .Z rfl<| .aC rfl rfl ?_
 have s7:=s2.pk []
 omega
theorem o8 (c:Co) (p:Int) (w:World) (hr:RdC w c) (hl:c.tx.length<=64) (hin:∃ t∈c.tx,t.b<=p/\p<t.e):
  CallsV prog 122 [(.agg #[c.va,c.vt,c.vx,c.vr,c.vn,c.vh,c.vl]),(.int .i64 (p))] w λ r w'=>∃ (i:Nat) (t:Iv),r= .int .i64 (i:Int)/\c.tx[i]? =some t/\t.b<=p/\p<t.e/\Sat w [] w':=by
 have hs0:=Sat.start w
 refine ai func122 rfl rfl ?_
 refine .h<| .bx 0 hs0 rfl λ b1 _ s1 _ _=> .Z rfl<| .seq<| .h<| .ld 1 s1 0 rfl<| .ln 0 (hr.x.ext s1.ext) rfl<| .Z rfl<| .block<| .lq [0,1,2,8,9] rfl (α:=Nat) (λ k=>[(10,(.int .i64 k))]) (λ k w'=>Sat w s1.L w'/\(∀ (j:Nat) t,j<k->c.tx[j]? =some t->¬ (t.b<=p/\p<t.e))) (λ k=>c.tx.length-k) 0 ⟨s1,λ j t h=>absurd h (by omega)⟩ ?_
 rintro k w2 ⟨s2,hno⟩
 refine .Z rfl<| .seq<| .ae rfl (λ c1=> ?_) λ c1=> ?_
 ·refine .skip<| .seq<| .block<| .seq ?_
  obtain ⟨x,hx⟩:∃ x,(c.tx)[k]? =some x:=⟨_,py c1⟩
  refine .region<| .ix 1 (hr.x.ext s2.ext) rfl<| .lg 0 (hr.x.ext s2.ext) hx rfl<| .al 0 s2 rfl λ b2 _ s3 _ _=> .sa 1 s3 1 rfl ((aG).one _) λ _ s4 _=> ?_
  have s4:=s4.nn
  refine .nil<| .seq<| .bN 24 (((x.b:Int)<=(p:Int))/\((p:Int)<(x.e:Int))) ?_ ?_
  ·refine .ld 1 s4 1 rfl<| .a 1 rfl (.leq rfl rfl)<| .z 1 rfl<| .B 19 rfl (λ g1=> ?_) λ g1=> ?_
   ·refine .ld 2 s4 1 rfl<| .a 0 rfl (.lss rfl rfl)<| .M rfl (by simp [g1])
   refine .M rfl (by simp [g1])
  refine .ae rfl (λ c2=> ?_) λ c2=> ?_
  ·refine .Z rfl<| .aC rfl rfl ?_
   exact ⟨k,x,rfl,hx,c2.1,c2.2,s4.pk []⟩
  refine .skip<| .U rfl ?_
  exact aT (k+1) ⟨s4.pk [0],iT hno hx c2⟩
 refine .ao<| .Z rfl<| .aC rfl rfl ?_
 have s7:=s2.pk []
 obtain ⟨t,ht,h1⟩:=hin
 obtain ⟨j,hj⟩:=Qh ht
 exact absurd h1 (hno j t (by have:=(AT.1 hj).1;omega) hj)
theorem tm (c:Co) (b e:Int) (w:World) (hr:RdC w c) (n:Nat) (ho:OkC n c) (hn:n<=3) (hin:inT c.tx b e):
  CallsV prog 116 [(.agg #[c.va,c.vt,c.vx,c.vr,c.vn,c.vh,c.vl]),(.int .i64 (b)),(.int .i64 (e))] w λ r w'=>r= .bool true/\Sat w [] w':=by
 have htx:=ho.ntx
 obtain ⟨t,ht,ht1,ht2,ht3⟩:=hin
 have hs0:=Sat.start w
 refine ai func116 rfl rfl ?_
 refine .h<| .bx 0 hs0 rfl λ b1 _ s1 _ _=> .Z rfl<| .h<| .lo 0 s1 0 rfl<| .c 1 (o8 c (b) _ (hr.ext s1.ext) (by omega) (⟨t,ht,ht1,by omega⟩)) rfl λ r1 _ h1=> ?_
 obtain ⟨ti1,tt1,rfl,htt1,htt1b,htt1e,p1⟩:=h1
 have s2:=s1.az p1
 have htt1l:=(AT.1 htt1).1
 refine .Z rfl<| .h<| .a 2 rfl (.lss rfl rfl)<| .z 1 rfl<| .Gt 14 rfl (PM (ht2))<| .z 4 rfl<| .Gt 18 rfl (PM (by omega))<| .ld 2 s2 0 rfl<| .ix 1 (hr.x.ext s2.ext) rfl<| .fl 0 (hr.x.ext s2.ext) rfl<| .lf 0 (hr.x.ext s2.ext) htt1 rfl<| .a 0 rfl (.leq rfl rfl)<| .Z rfl<| .aC rfl rfl ?_
 exact ⟨If Value.bool (PM (by rw [<-ho.tx.same ht (a7 htt1) ⟨ht1,by omega⟩ ⟨htt1b,htt1e⟩];exact ht3)),s2.pk []⟩
theorem Ct (c:Co) (n:Nat) (w:World) (hr:RdC w c) (ho:OkC n c) (hn:n<=3):
  CallsV prog 72 [(.agg #[c.va,c.vt,c.vx,c.vr,c.vn,c.vh,c.vl])] w λ r w'=>r= .tuple #[.int .i64 ((0:Nat):Int),.int .i64 ((0:Nat):Int)]/\Sat w [] w':=by
 have htk:=ho.ntk
 have htx:=ho.ntx
 have hrg:=ho.nrg
 have hnd:=ho.nnd
 have hat:=ho.at_.2
 have hs0:=Sat.start w
 refine ai func72 rfl rfl ?_
 refine .h<| .bx 0 hs0 rfl λ b1 _ s1 _ _=> .Z rfl<| .seq<| .block<| .h<| .ld 1 s1 0 rfl<| .ln 0 (hr.x.ext s1.ext) rfl<| .Z rfl<| .aj rfl (IN (by omega))<| .h<| .ld 1 s1 0 rfl<| .ln 0 (hr.x.ext s1.ext) rfl<| .ld 2 s1 0 rfl<| .ln 0 (hr.t.ext s1.ext) rfl<| .a 1 rfl (.Oq underlying4 rfl rfl)<| .Z rfl<| .aj rfl (ho.tx.lens)<| .skip<| .Z rfl<| .seq<| .h<| .ld 1 s1 0 rfl<| .ln 0 (hr.x.ext s1.ext) rfl<| .Z rfl<| .block<| .lq [0,1,24,25] rfl (α:=Nat×Int) (λ (k,en)=>[(4,(.int .i64 (en))),(26,(.int .i64 k))]) (λ (k,en) w'=>Sat w s1.L w'/\(∀ x,c.tx[k]? =some x->x.b=en)) (λ (k,en)=>c.tx.length-k) (0,0) ⟨s1,ho.tx.first⟩ ?_
 rintro ⟨k,en⟩ w2 ⟨s2,hen⟩
 refine .Z rfl<| .seq<| .ae rfl (λ c1=> ?_) λ c1=> ?_
 ·refine .skip<| .seq<| .block<| .seq ?_
  obtain ⟨x,hx⟩:∃ x,(c.tx)[k]? =some x:=⟨_,py c1⟩
  have hxo:=ho.tx.nm x (a7 hx)
  refine .region<| .ix 1 (hr.x.ext s2.ext) rfl<| .lg 0 (hr.x.ext s2.ext) hx rfl<| .al 0 s2 rfl λ b2 _ s3 _ _=> .sa 1 s3 1 rfl ((aG).one _) λ _ s4 _=> ?_
  have s4:=s4.nn
  refine .nil<| .seq<| .block<| .h<| .ld 1 s4 1 rfl<| .cp 0 s4 (dH x.nm _) rfl λ _ s5=> .e rfl (.cO rfl)<| .Z rfl<| .aj rfl (by simp [hxo.1])<| .h<| .lo 0 s5 0 rfl<| .ld 1 s5 1 rfl<| .cp 0 s5 (wV c _ k x _ (hr.ext s5.ext) ho hn hx) rfl λ _ s6=> .Z rfl<| .aj rfl (IN (by omega))<| .seq<| .h<| .ld 1 s6 1 rfl<| .a 1 rfl (.neq rfl rfl)<| .Z rfl<| .aj rfl (IN (λ h=>h (hen x hx)))<| .h<| .ld 1 s6 1 rfl<| .ld 1 s6 1 rfl<| .e rfl (.leq rfl rfl)<| .Z rfl<| .aj rfl (IN (by omega))<| .region<| .ld 1 s6 1 rfl<| .ld 1 s6 0 rfl<| .ln 0 (hr.t.ext s6.ext) rfl<| .e rfl (.gtr rfl rfl)<| .Z rfl<| .aj rfl (IN (by omega))<| .seq<| .bN 62 ((k=(c.tx.length-1))/\((x.e:Int)≠((c.tk.length:Nat):Int))) ?_ ?_
  ·refine .ld 2 s6 0 rfl<| .ln 0 (hr.x.ext s6.ext) rfl<| .z 3 rfl<| .B 69 rfl (λ g1=> ?_) λ g1=> ?_
   ·refine .ld 1 s6 1 rfl<| .ld 1 s6 0 rfl<| .ln 0 (hr.t.ext s6.ext) rfl<| .a 0 rfl (.neq rfl rfl)<| .M rfl (by simp [g1])
   refine .M rfl (by simp [g1])
  refine .aj rfl (IN (λ h=>h.2 (ho.tx.last k x hx (by omega))))<| .skip<| .seq<| .h<| .ld 1 s6 1 rfl<| .cq 0 s6 (pc _ (x.ps) _ ((hr.xr _ (a7 hx)).ext s6.ext) (hxo.2.1)) rfl λ _ s7=> .Z rfl<| .Z rfl<| .aj rfl (rfl)<| .skip<| .trim [0,1,4,5,6,7,24,25,26] rfl<| .region<| .ld 1 s7 1 rfl<| .Z rfl<| .U rfl ?_
  exact aT (k+1,x.e) ⟨s7.pk [0],λ y hy=>ho.tx.next k x y hx hy⟩
 refine .ao<| .Z rfl<| .cj rfl rfl rfl ?_
 exact ⟨rfl,s2.pk []⟩
theorem zu (x y:Iv) (w:World):
  CallsV prog 118 [((aG).ag x),((aG).ag y)] w λ r w'=>r= .bool (decide ((x.b<y.b/\y.b<x.e)/\x.e<y.e))/\Sat w [] w':=by
 have hs0:=Sat.start w
 refine ai func118 rfl rfl ?_
 refine .h<| .bx 0 hs0 rfl λ b1 _ s1 _ _=> .bx 0 s1 rfl λ b2 _ s2 _ _=> .Z rfl<| .seq<| .bN 4 ((((x.b:Int)<(y.b:Int))/\((y.b:Int)<(x.e:Int)))/\((x.e:Int)<(y.e:Int))) ?_ ?_
 ·refine .ld 1 s2 0 rfl<| .ld 1 s2 1 rfl<| .e rfl (.lss rfl rfl)<| .z 1 rfl<| .B 10 rfl (λ g1=> ?_) λ g1=> ?_
  ·refine .ld 1 s2 1 rfl<| .ld 1 s2 0 rfl<| .a 0 rfl (.lss rfl rfl)<| .z 2 rfl<| .B 17 rfl (λ g2=> ?_) λ g2=> ?_
   ·refine .ld 1 s2 0 rfl<| .ld 1 s2 1 rfl<| .a 0 rfl (.lss rfl rfl)<| .M rfl (by simp [g1,g2])
   refine .M rfl (by simp [g1,g2])
  refine .M rfl (by simp [g1])
 refine .aC rfl rfl ?_
 exact ⟨rfl,s2.pk []⟩
theorem wW (c:Co) (n:Nat) (w:World) (hr:RdC w c) (ho:OkC n c) (hn:n<=3):
  CallsV prog 73 [(.agg #[c.va,c.vt,c.vx,c.vr,c.vn,c.vh,c.vl])] w λ r w'=>r= .tuple #[.int .i64 ((0:Nat):Int),.int .i64 ((0:Nat):Int)]/\Sat w [] w':=by
 have htk:=ho.ntk
 have htx:=ho.ntx
 have hrg:=ho.nrg
 have hnd:=ho.nnd
 have hat:=ho.at_.2
 have hs0:=Sat.start w
 refine ai func73 rfl rfl ?_
 refine .h<| .bx 0 hs0 rfl λ b1 _ s1 _ _=> .Z rfl<| .seq<| .h<| .ld 1 s1 0 rfl<| .ln 0 (hr.r.ext s1.ext) rfl<| .Z rfl<| .aj rfl (IN (by omega))<| .skip<| .Z rfl<| .seq<| .h<| .ld 1 s1 0 rfl<| .ln 0 (hr.r.ext s1.ext) rfl<| .Z rfl<| .block ?_
 have s2:=s1.aA 75 (aG)
 refine .lq [0,1,18,19] rfl (α:=Nat×Value×List Iv) (λ (k,ov,op)=>[(4,ov),(20,(.int .i64 k))]) (λ (k,ov,op) w'=>Sat w (s2.U [(1,cL ov 75 (aG) (op))]) w'/\(∀ z∈op,z∈c.rg)/\(op.length<=k)) (λ (k,ov,op)=>c.rg.length-k) (0,(.slice none 0 0),[]) ⟨s2,(λ z hz=>by cases hz),KB _⟩ ?_
 rintro ⟨k,ov,op⟩ w2 ⟨s3,hop,hol⟩
 refine .Z rfl<| .seq<| .ae rfl (λ c1=> ?_) λ c1=> ?_
 ·refine .skip<| .seq<| .block<| .seq ?_
  obtain ⟨x,hx⟩:∃ x,(c.rg)[k]? =some x:=⟨_,py c1⟩
  have hxo:=ho.rg.el x (a7 hx)
  refine .region<| .ix 1 (hr.r.ext s3.ext) rfl<| .lg 0 (hr.r.ext s3.ext) hx rfl<| .al 0 s3 rfl λ b2 _ s4 _ _=> .sa 1 s4 2 rfl ((aG).one _) λ _ s5 _=> ?_
  have s5:=s5.nn
  refine .nil<| .seq<| .block<| .h<| .ld 1 s5 2 rfl<| .cp 0 s5 (dH x.nm _) rfl λ _ s6=> .e rfl (.cO rfl)<| .Z rfl<| .aj rfl (by simp [hxo.1])<| .h<| .lo 0 s6 0 rfl<| .ld 1 s6 2 rfl<| .ld 1 s6 2 rfl<| .cp 0 s6 (tm c (x.b) (x.e) _ (hr.ext s6.ext) _ ho hn (hxo.2.1)) rfl λ _ s7=> .Z rfl<| .aj rfl (rfl)<| .skip<| .seq<| .h<| .ld 1 s7 2 rfl<| .cq 0 s7 (pc _ (x.ps) _ ((hr.rr _ (a7 hx)).ext s7.ext) (hxo.2.2)) rfl λ _ s8=> .Z rfl<| .Z rfl<| .aj rfl (rfl)<| .skip<| .seq<| .seq ?_
  obtain ⟨y,hy⟩:=pN hx
  refine .md [0,1,4,5,6,7,18,19,20] rfl (λ K L' w'=>Weak ([(59,(.bool (decide ((0<k)/\((0:Int)<((ep y x):Int))))))]++K) L'/\Sat w s8.L w') ?_ ?_
  ·refine .dk [0,1,2] s8 rfl (pl [0,1,2,3,4,5,6,7,8,9,1010,11,12] .fin) λ s9 S1=> .z 3 S1 rfl<| .B 49 rfl (λ g1=> ?_) λ g1=> ?_
   ·refine .ld 1 S1 0 rfl<| .ix 2 S1 (hr.r.ext ·.ext) rfl<| .lg 0 S1 (hr.r.ext ·.ext) (hy (by omega)) rfl<| .a 0 S1 rfl (λ _ s=> .fH yQ rfl s (i:=2) rfl rfl)<| .c 0 S1 (I8 y x _ ((hr.rr _ (a7 (hy (by omega)))).ext s9.ext) ((hr.rr _ (a7 hx)).ext s9.ext) (by have:=(ho.rg.el y (a7 (hy (by omega)))).2.2.1;omega) (by have:=hxo.2.2.1;omega)) rfl λ r4 _ h4=> ?_
    obtain ⟨rfl,p4⟩:=h4
    have s10:=s9.az p4
    have S2:=s10.pk [0,1,2]
    refine ⟨S2,?_⟩
    refine .a 0 S2 rfl (λ _ s=> .gtr rfl rfl)<| .Z S2 rfl ?_
    exact ⟨⟨If some (If Value.bool (by simp [g1])),rfl,rfl,rfl,rfl,rfl,rfl,rfl,rfl,rfl,trivial⟩,s10⟩
   refine .Z S1 rfl ?_
   exact ⟨⟨If some (If Value.bool (by simp [g1])),rfl,rfl,rfl,rfl,rfl,rfl,rfl,rfl,rfl,trivial⟩,s9⟩
  rintro L' w9 ⟨hw1,s11⟩
  refine .weaken _ hw1<| .aj rfl (IN (λ h=>by have:=ho.rg.asc (k-1) y x (hy h.1) (by rw [show k-1+1=k by omega];exact hx);omega))<| .skip<| .Z rfl<| .seq<| .h<| .ln 1 (s11.ah 1 rfl) rfl<| .Z rfl<| .block ?_
  have s12:=s11.aA 75 (aG)
  refine .lq [0,1,4,5,6,7,18,19,20,61,62] rfl (α:=Nat×Value×List Iv) (λ (j,sv,st)=>[(8,sv),(63,(.int .i64 j))]) (λ (j,sv,st) w'=>Sat w (s12.U [(2,aq b2 75 [(.string x.nm),(.int .i64 (x.b)),(.int .i64 (x.e)),x.sv.val]),(3,cL sv 75 (aG) (st))]) w'/\(∀ z∈st,z∈c.rg)/\(st.length<=j)/\(j<=op.length)) (λ (j,sv,st)=>op.length-j) (0,(.slice none 0 0),[]) ⟨s12,(λ z hz=>by cases hz),KB _,KD _⟩ ?_
  rintro ⟨j,sv,st⟩ w10 ⟨s13,hst,hsl,hjo⟩
  refine .Z rfl<| .seq<| .ae rfl (λ c2=> ?_) λ c2=> ?_
  ·refine .skip<| .seq<| .block<| .seq ?_
   obtain ⟨z,hz⟩:∃ z,(op)[j]? =some z:=⟨_,py c2⟩
   have hz9:=hz
   refine .region<| .ix 0 (s13.ah 1 rfl) rfl<| .lg 0 (s13.ah 1 rfl) hz rfl<| .al 0 s13 rfl λ b3 _ s14 _ _=> .sa 0 s14 4 rfl ((aG).one _) λ _ s15 _=> .nil<| .h<| .ld 1 s15 4 rfl<| .ld 1 s15 2 rfl<| .e rfl (.gtr rfl rfl)<| .nil<| .ae rfl (λ c3=> ?_) λ c3=> ?_
   ·refine .region<| .lo 1 s15 4 rfl<| .f rfl (.cn (aG) z oU (by decide) (by decide) s15 rfl λ v1 _ s16 _=> ?_)
    have s16:=s16.nn
    refine .ap 0 s16 3 (s16.ah 5 rfl) rfl (h1:=by simp only [KM];omega) (h2:=by simp only [KM];omega) λ v2 _ s17 _=> ?_
    refine .Z rfl<| .U rfl ?_
    have s18:=(s17.pk [0,1,2,3,4]).pk [0,1,2,3]
    exact aT (j+1,v2,st++[z]) ⟨s18,λ z hz=>(PT.1 hz).elim (hst z) (λ h=>by rw [Q0.1 h];exact hop _ (a7 hz9)),by simp only [sp,KM];omega,by omega⟩
   refine .skip<| .U rfl ?_
   exact aT (j+1,sv,st) ⟨s15.pk [0,1,2,3],hst,by omega,by omega⟩
  refine .ao<| .seq<| .h<| .ln 1 (s13.ah 3 rfl) rfl<| .Z rfl<| .block<| .lq [0,1,4,5,6,7,8,18,19,20,61,62,63,77,78] rfl (α:=Nat) (λ i=>[(79,(.int .i64 i))]) (λ i w'=>Sat w s13.L w') (λ i=>st.length-i) 0 s13 ?_
  rintro i w15 s20
  refine .Z rfl<| .seq<| .ae rfl (λ c4=> ?_) λ c4=> ?_
  ·refine .skip<| .seq<| .block<| .seq ?_
   obtain ⟨z,hz⟩:∃ z,(st)[i]? =some z:=⟨_,py c4⟩
   refine .region<| .ix 0 (s20.ah 3 rfl) rfl<| .lg 0 (s20.ah 3 rfl) hz rfl<| .al 0 s20 rfl λ b4 _ s21 _ _=> .sa 0 s21 4 rfl ((aG).one _) λ _ s22 _=> .nil<| .seq<| .md [0,1,4,5,6,7,8,12,18,19,20,61,62,63,77,78,79] rfl (λ K L' w'=>Weak ([(92,(.bool (decide ((z.nm=x.nm)/\((z.b<x.b/\x.b<z.e)/\z.e<x.e)))))]++K) L'/\Sat w s22.L w') ?_ ?_
   ·refine .region<| .ld 1 s22 4 rfl<| .ld 1 s22 2 rfl<| .e rfl (.eF rfl rfl)<| .z 1 rfl<| .B 88 rfl (λ g2=> ?_) λ g2=> ?_
    ·refine .lo 0 s22 4 rfl<| .lo 0 s22 2 rfl<| .cq 0 s22 (zu z x _) rfl λ _ s23=> .Z rfl ?_
     exact ⟨⟨If some (If Value.bool (by simp [g2])),rfl,rfl,rfl,rfl,rfl,rfl,rfl,rfl,rfl,rfl,rfl,rfl,rfl,rfl,rfl,rfl,rfl,trivial⟩,s23⟩
    refine .Z rfl ?_
    exact ⟨⟨If some (If Value.bool (by simp [g2])),rfl,rfl,rfl,rfl,rfl,rfl,rfl,rfl,rfl,rfl,rfl,rfl,rfl,rfl,rfl,rfl,rfl,trivial⟩,s22⟩
   rintro L' w19 ⟨hw2,s24⟩
   refine .weaken _ hw2<| .aj rfl (IN (λ h=>ho.rg.nox z (hst z (a7 hz)) x (a7 hx) h.1 ⟨by omega,by omega,by omega,by omega⟩))<| .skip<| .U rfl ?_
   exact aT (i+1) (s24.pk [0,1,2,3])
  refine .ao<| .h<| .lo 1 s20 2 rfl<| .f rfl (.cn (aG) x oU (by decide) (by decide) s20 rfl λ v3 _ s26 _=> ?_)
  refine .ap 0 s26 3 (s26.ah 4 rfl) rfl (h1:=by simp only [KM];omega) (h2:=by simp only [KM];omega) λ v_4 _ s27 _=> ?_
  have s27:=s27.pk [0,1,2,3]
  refine .Z rfl<| .h<| .ln 1 (s27.ah 3 rfl) rfl<| .Z rfl<| .aj rfl (IN (by simp only [sp,KM];omega))<| .skip<| .U rfl ?_
  exact aT (k+1,v_4,st++[x]) ⟨s27.pk [0,3],λ z hz=>(PT.1 hz).elim (hst z) (λ h=>by rw [Q0.1 h];exact a7 hx),by simp only [sp,KM];omega⟩
 refine .ao<| .Z rfl<| .cj rfl rfl rfl ?_
 exact ⟨rfl,s3.pk []⟩
theorem Ee (v:Value) (l:List Nd) (k:Nat) (p:Int) (w:World) (hv:RdL w v bE l) (hl:l.length<=1000) (hk:k<=l.length) (hp:p= -1\/p+1=(k:Int)) (hpar:∀ (i:Nat) x,l[i]? =some x->x.p= -1\/x.p+1=(i:Int)):
  CallsV prog 119 [v,(.int .i64 (p)),(.int .i64 ((((k:Nat):Int)-1)))] w λ r w'=>r= .bool true/\Sat w [] w':=by
 refine cg func119 rfl λ hs0=> .Z rfl<| .seq<| .block<| .lq [0,1,6] rfl (α:=Int) (λ z=>[(2,(.int .i64 (z)))]) (λ z w'=>Sat w [] w'/\(-1<=z/\z<(l.length:Int))/\(p= -1\/z=p)) (λ z=>(z+1).toNat) (((k:Nat):Int)-1) ⟨hs0,by omega,by omega⟩ ?_
 rintro z w1 ⟨s1,hz,hzp⟩
 refine .seq<| .seq<| .bN 13 (((0:Int)<=(z:Int))/\((z:Int)≠(p:Int))) ?_ ?_
 ·refine .a 1 rfl (.geq rfl rfl)<| .z 1 rfl<| .B 9 rfl (λ g1=> ?_) λ g1=> ?_
  ·refine .a 2 rfl (.neq rfl rfl)<| .M rfl (by simp [g1])
  refine .M rfl (by simp [g1])
 refine .ae rfl (λ c1=> ?_) λ c1=> ?_
 ·refine .skip<| .block ?_
  obtain ⟨x,hx⟩:∃ x,l[z.toNat]? =some x:=⟨_,py (by omega)⟩
  have hxp:=hpar _ x hx
  refine .region<| .a 2 rfl (.j4 (j:=z.toNat) (E:=bE) iE rfl (fN (z:=z) (n:=z.toNat) (by omega)) (hv.ext s1.ext) (by omega))<| .fl 0 (hv.ext s1.ext) rfl<| .lf 0 (hv.ext s1.ext) hx rfl<| .Z rfl ?_
  exact aT x.p ⟨s1,by omega,by omega⟩
 refine .ao<| .h<| .a 2 rfl (.eql rfl rfl)<| .Z rfl<| .aC rfl rfl ?_
 exact ⟨If Value.bool (PM (by omega)),s1.pk []⟩
theorem Cu (c:Co) (n:Nat) (w:World) (hr:RdC w c) (ho:OkC n c) (hn:n<=3):
  CallsV prog 74 [(.agg #[c.va,c.vt,c.vx,c.vr,c.vn,c.vh,c.vl])] w λ r w'=>r= .tuple #[.int .i64 ((0:Nat):Int),.int .i64 ((0:Nat):Int)]/\Sat w [] w':=by
 have htk:=ho.ntk
 have htx:=ho.ntx
 have hrg:=ho.nrg
 have hnd:=ho.nnd
 have hat:=ho.at_.2
 have hs0:=Sat.start w
 refine ai func74 rfl rfl ?_
 refine .h<| .bx 0 hs0 rfl λ b1 _ s1 _ _=> .Z rfl<| .seq<| .h<| .ld 1 s1 0 rfl<| .ln 0 (hr.n.ext s1.ext) rfl<| .Z rfl<| .aj rfl (IN (by omega))<| .skip<| .h<| .ld 1 s1 0 rfl<| .ln 0 (hr.n.ext s1.ext) rfl<| .b 1 rfl (.cP (Kw.encI .i64) (0) aQ rfl s1 rfl rfl (by omega) (by omega) (by omega) λ v1 _ s2 _=> ?_)
 refine .Z rfl<| .h<| .ld 1 s2 0 rfl<| .ln 0 (hr.n.ext s2.ext) rfl<| .b 1 rfl (.cP (aa .i64) (0) aQ rfl s2 rfl rfl (by omega) (by omega) (by omega) λ v2 _ s3 _=> ?_)
 have s3:=s3.nn
 refine .Z rfl<| .seq<| .h<| .ld 1 s3 0 rfl<| .ln 0 (hr.n.ext s3.ext) rfl<| .Z rfl<| .block<| .lq [0,1,24,25] rfl (α:=Nat×Value×List Int×Value×List Nat) (λ (k,ev,en,dv,dp)=>[(4,ev),(5,dv),(26,(.int .i64 k))]) (λ (k,ev,en,dv,dp) w'=>Sat w (s3.U [(1,cL ev 3 (Kw.encI .i64) (en)),(2,cL dv 3 (aa .i64) (dp))]) w'/\(en.length=c.nd.length+1)/\(dp.length=c.nd.length+1)/\(∀ (q:Nat) z,en[q]? =some z->z=0\/∃ (s:Nat) (y:Nd),s<k/\c.nd[s]? =some y/\y.p+1=(q:Int)/\y.e=z)/\(∀ (q:Nat) d,dp[q]? =some d->d<=q)) (λ (k,ev,en,dv,dp)=>c.nd.length-k) (0,v1,List.replicate ((c.nd.length+1)) 0,v2,List.replicate ((c.nd.length+1)) 0) ⟨s3,by simp,by simp,(λ q z h=> .inl (by rw [Ro] at h;split at h;cases h;rfl;cases h)),(λ q z h=>by rw [Ro] at h;split at h;cases h;omega;cases h)⟩ ?_
 rintro ⟨k,ev,en,dv,dp⟩ w4 ⟨s4,hel,hdl,hen,hdp⟩
 refine .Z rfl<| .seq<| .ae rfl (λ c1=> ?_) λ c1=> ?_
 ·refine .skip<| .seq<| .block<| .seq ?_
  obtain ⟨x,hx⟩:∃ x,(c.nd)[k]? =some x:=⟨_,py c1⟩
  have hxo:=ho.nd.el x (a7 hx)
  have hxp:=ho.nd.par k x hx
  have hxq:=hxp.imp_right (·.1)
  refine .region<| .ix 1 (hr.n.ext s4.ext) rfl<| .lg 0 (hr.n.ext s4.ext) hx rfl<| .al 0 s4 rfl λ b2 _ s5 _ _=> .sa 1 s5 3 rfl ((bE).one _) λ _ s6 _=> .nil<| .seq<| .block<| .h<| .ld 1 s6 3 rfl<| .cq 0 s6 (dH x.nm _) rfl λ _ s7=> .e rfl (.cO rfl)<| .Z rfl<| .aj rfl (by simp [hxo.1])<| .h<| .lo 0 s7 0 rfl<| .ld 1 s7 3 rfl<| .ld 1 s7 3 rfl<| .cp 0 s7 (tm c (x.b) (x.e) _ (hr.ext s7.ext) _ ho hn (hxo.2)) rfl λ _ s8=> .Z rfl<| .aj rfl (rfl)<| .h<| .ld 1 s8 0 rfl<| .ld 1 s8 3 rfl<| .a 1 rfl (.sub (b:=(1:Int)) rfl rfl (by unfold aY;omega))<| .cp 0 s8 (Ee _ (c.nd) k (x.p) _ (hr.n.ext s8.ext) (by omega) (by omega) (by omega) (λ i y hy=>(ho.nd.par i y hy).imp_right (·.1))) rfl λ _ s9=> .Z rfl<| .aj rfl (rfl)<| .skip<| .jn [0,1,4,5,6,7,24,25,26] rfl (λ K L' w'=>Weak K L'/\Sat w s9.L w') ?_ ?_
  ·refine .h<| .ld 1 s9 3 rfl<| .e rfl (.geq rfl rfl)<| .nil<| .ae rfl (λ c2=> ?_) λ c2=> ?_
   ·refine .seq ?_
    obtain ⟨y,hy⟩:∃ y,c.nd[x.p.toNat]? =some y:=⟨_,py (by omega)⟩
    have hyo:=(hxp.resolve_left (by omega)).2.2 y (by rw [show k-1=x.p.toNat by omega];exact hy)
    refine .region<| .ld 1 s9 0 rfl<| .ld 1 s9 3 rfl<| .e rfl (.j4 (j:=x.p.toNat) (E:=bE) iE rfl (fN (z:=x.p) (n:=x.p.toNat) (by omega)) (hr.n.ext s9.ext) (by omega))<| .lg 0 (hr.n.ext s9.ext) hy rfl<| .al 0 s9 rfl λ b3 _ s10 _ _=> ?_
    have s10:=s10.nn
    refine .sa 0 s10 4 rfl ((bE).one _) λ _ s11 _=> .nil<| .seq<| .bN 76 (((x.b:Int)<(y.b:Int))\/((y.e:Int)<(x.e:Int))) ?_ ?_
    ·refine .ld 1 s11 3 rfl<| .ld 1 s11 4 rfl<| .e rfl (.lss rfl rfl)<| .z 1 rfl<| .B 70 rfl (λ g1=> ?_) λ g1=> ?_
     ·refine .M rfl (by simp [g1])
     refine .ld 1 s11 3 rfl<| .ld 1 s11 4 rfl<| .a 0 rfl (.gtr rfl rfl)<| .M rfl (by simp [g1])
    refine .aj rfl (IN (by omega))<| .skip ?_
    exact ⟨(wk rfl),s11.pk [0,1,2,3]⟩
   refine .skip ?_
   exact ⟨(wk rfl),s9.pk [0,1,2,3]⟩
  rintro L' w12 ⟨hw1,s14⟩
  refine .weaken _ hw1<| .seq<| .seq ?_
  obtain ⟨z,hz⟩:∃ z,en[(x.p+1).toNat]? =some z:=⟨_,py (by omega)⟩
  obtain ⟨d,hd⟩:∃ d,dp[(x.p+1).toNat]? =some d:=⟨_,py (by omega)⟩
  have hdd:=hdp _ d hd
  have hd2:(dp.set (k+1) (d+1))[k+1]? =some (d+1):=Qo (by omega)
  refine .dk [0,1,2,3] s14 rfl (pl [0,1,2,3,4,5,6,7,8] .fin) λ s15 S1=> .ld 1 S1 3 rfl<| .ld 2 S1 3 rfl<| .e rfl (λ _ hS=> .add (b:=(1:Int)) rfl rfl (by unfold aY;omega)) S1<| .e rfl (λ _ hS=> .j4 (j:=(x.p+1).toNat) (E:=Kw.encI .i64) aQ rfl (fN (z:=(x.p+1)) (n:=(x.p+1).toNat) (by omega)) (hS.ah 1 rfl) (by omega)) S1<| .le 0 S1 (·.ah 1 rfl) hz rfl<| .e rfl (λ _ hS=> .lss rfl rfl) S1<| .fin<| .aj rfl (IN (λ h=>(hen _ z hz).elim (λ e=>by have:=hxo.2.bd ho.tx;omega) (λ ⟨s,y,h1,h2,h3,h4⟩=>by have:=ho.nd.sib s k x y h2 hx h1 (by omega);omega)))<| .skip<| .h<| .ld 2 s15 3 rfl<| .e rfl (.add (b:=(1:Int)) rfl rfl (by unfold aY;omega))<| .ld 1 s15 3 rfl<| .e rfl (.j4 (j:=(x.p+1).toNat) (E:=Kw.encI .i64) aQ rfl (fN (z:=(x.p+1)) (n:=(x.p+1).toNat) (by omega)) (s15.ah 1 rfl) (by omega))<| .f rfl (.cH (a:=x.e) 1 cQ s15 rfl rfl rfl rfl (by first|omega|(rw [PJ];omega)) λ _ s16 _=> ?_)
  have s16:=s16.nn
  refine .nil<| .h<| .ld 5 s16 3 rfl<| .e rfl (.add (b:=(1:Int)) rfl rfl (by unfold aY;omega))<| .e rfl (.j4 (j:=(x.p+1).toNat) (E:=aa .i64) aQ rfl (fN (z:=(x.p+1)) (n:=(x.p+1).toNat) (by omega)) (s16.ah 2 rfl) (by omega))<| .le 0 (s16.ah 2 rfl) hd rfl<| .ix 1 (s16.ah 2 rfl) rfl<| .f rfl (.cH (a:=(d+1)) 2 cQ s16 rfl rfl rfl rfl (by first|omega|(rw [PJ];omega)) λ _ s17 _=> ?_)
  refine .nil<| .h<| .ix 3 (s17.ah 2 rfl) rfl (hj:=by rw [PJ];omega)<| .le 0 (s17.ah 2 rfl) hd2 rfl<| .Z rfl<| .aj rfl (IN (by omega))<| .skip<| .U rfl ?_
  exact aT (k+1,ev,en.set ((x.p+1).toNat) x.e,dv,dp.set (k+1) (d+1)) ⟨s17.pk [0,1,2],by rw [PJ];exact hel,by rw [PJ];exact hdl,Jt hen hx (by omega),Ju hdp (by omega)⟩
 refine .ao<| .Z rfl<| .cj rfl rfl rfl ?_
 exact ⟨rfl,s4.pk []⟩
theorem zv (vh vl:Value) (hd:List Int) (rl:List ByteArray) (w:World) (hv:RdL w vh (Kw.encI .i64) hd) (hw:RdL w vl ax rl) (hl:hd.length<=1000) (he:hd.length=rl.length) (hb:∃ i:Nat,(∃ h,hd[i]? =some h/\h≠-1)\/∃ s,rl[i]? =some s/\s≠ByteArray.empty):
  CallsV prog 120 [vh,vl] w λ r w'=>r= .bool false/\Sat w [] w':=by
 refine cg func120 rfl λ hs0=> .Z rfl<| .seq<| .h<| .ln 1 (hv.ext hs0.ext) rfl<| .Z rfl<| .block<| .lq [0,1,7,8] rfl (α:=Nat) (λ k=>[(9,(.int .i64 k))]) (λ k w'=>Sat w [] w'/\(∀ (j:Nat) t,j<k->hd[j]? =some t->t= -1/\rl[j]? =some (ByteArray.mk #[]))) (λ k=>hd.length-k) 0 ⟨hs0,λ j t h=>absurd h (by omega)⟩ ?_
 rintro k w1 ⟨s1,hno⟩
 refine .Z rfl<| .seq<| .ae rfl (λ c1=> ?_) λ c1=> ?_
 ·refine .skip<| .seq<| .block<| .seq ?_
  obtain ⟨x,hx⟩:∃ x,(hd)[k]? =some x:=⟨_,py c1⟩
  obtain ⟨s,hs9⟩:∃ s,rl[k]? =some s:=⟨_,py (by omega)⟩
  refine .region<| .ix 1 (hv.ext s1.ext) rfl<| .le 0 (hv.ext s1.ext) hx rfl<| .Z rfl<| .seq<| .bN 22 (((x:Int)≠(-1:Int))\/(s≠(ByteArray.mk #[]))) ?_ ?_
  ·refine .a 1 rfl (.neq rfl rfl)<| .z 1 rfl<| .B 16 rfl (λ g1=> ?_) λ g1=> ?_
   ·refine .M rfl (by simp [g1])
   refine .ix 2 (hw.ext s1.ext) rfl<| .le 0 (hw.ext s1.ext) hs9 rfl<| .a 0 rfl (.ed rfl rfl)<| .M rfl (by simp [g1])
  refine .ae rfl (λ c2=> ?_) λ c2=> ?_
  ·refine .Z rfl<| .aC rfl rfl ?_
   exact ⟨rfl,s1.pk []⟩
  refine .skip<| .U rfl ?_
  exact aT (k+1) ⟨s1,iT hno hx ⟨by omega,by rw [hs9];exact If some (Qf.1 λ h=>c2 (.inr h))⟩⟩
 refine .ao<| .Z rfl<| .aC rfl rfl ?_
 have s3:=s1.pk []
 exact (Nu he hno (by omega) hb).elim
theorem Cv (v:Value) (hd:List Int) (n:Nat) (w:World) (hv:RdL w v (Kw.encI .i64) hd) (hl:hd.length<=1000) (hf:HdF n hd):
  CallsV prog 121 [v] w λ r w'=>Sat w [cL r 4 jb (List.replicate hd.length false)] w':=by
 obtain ⟨rank,hrk⟩:=hf.rk
 have hs0:=Sat.start w
 refine ai func121 rfl rfl ?_
 refine .Z rfl<| .h<| .ln 1 (hv.ext hs0.ext) rfl<| .f rfl (.cP (jb) (false) nZ rfl hs0 rfl rfl (by omega) (by omega) (by omega) λ v1 _ s1 _=> ?_)
 refine .Z rfl<| .h<| .ln 1 (hv.ext s1.ext) rfl<| .f rfl (.cP (aa .i64) (0) aQ rfl s1 rfl rfl (by omega) (by omega) (by omega) λ v2 _ s2 _=> ?_)
 refine .Z rfl<| .seq<| .h<| .ln 1 (hv.ext s2.ext) rfl<| .Z rfl<| .block<| .lq [0,2,3,15] rfl (α:=Nat×Value×List Nat) (λ (k,sv,se)=>[(4,sv),(16,(.int .i64 k))]) (λ (k,sv,se) w'=>Sat w (s2.U [(1,cL sv 3 (aa .i64) (se))]) w'/\(se.length=hd.length)/\(∀ (j:Nat) v,se[j]? =some v->v<=k)) (λ (k,sv,se)=>hd.length-k) (0,v2,List.replicate (hd.length) 0) ⟨s2,by simp,(λ j v h=>by rw [Ro] at h;split at h;cases h;omega;cases h)⟩ ?_
 rintro ⟨k,sv,se⟩ w3 ⟨s3,hsl,hsk⟩
 refine .Z rfl<| .seq<| .ae rfl (λ c1=> ?_) λ c1=> ?_
 ·refine .skip<| .seq<| .block<| .Z rfl<| .Z rfl<| .seq<| .block<| .lq [0,2,3,5,15,16] rfl (α:=Int×Value×List Nat) (λ (z,sv,se)=>[(4,sv),(6,(.int .i64 (z)))]) (λ (z,sv,se) w'=>Sat w (s3.U [(1,cL sv 3 (aa .i64) (se))]) w'/\(-1<=z/\z<(hd.length:Int))/\(se.length=hd.length)/\(∀ (j:Nat) v,se[j]? =some v->v<=k+1/\(v=k+1->0<=z->rank z.toNat<rank j))) (λ (z,sv,se)=>(if z<0 then 0 else rank z.toNat+1)) ((k:Int),sv,se) ⟨s3,by omega,hsl,λ j v h=>⟨by have:=hsk j v h;omega,λ e=>by have:=hsk j v h;omega⟩⟩ ?_
  rintro ⟨z,sv,se⟩ w4 ⟨s4,hz,hsl,hsv⟩
  refine .seq<| .seq ?_
  obtain ⟨s,hs9⟩:=Jv se z
  refine .bN 34 ((((0:Int)<=(z:Int))/\((z:Int)<((hd.length:Nat):Int)))/\(s=0)) ?_ ?_
  ·refine .a 1 rfl (.geq rfl rfl)<| .z 1 rfl<| .B 22 rfl (λ g1=> ?_) λ g1=> ?_
   ·refine .ln 2 (hv.ext s4.ext) rfl<| .a 0 rfl (.lss rfl rfl)<| .z 2 rfl<| .B 28 rfl (λ g2=> ?_) λ g2=> ?_
    ·refine .a 2 rfl (.j4 (j:=z.toNat) (E:=aa .i64) aQ rfl (fN (z:=z) (n:=z.toNat) (by omega)) (s4.ah 1 rfl) (by omega))<| .le 0 (s4.ah 1 rfl) (hs9 (by omega)) rfl<| .M rfl (by simp [g1,g2])
    refine .M rfl (by simp [g1,g2])
   refine .M rfl (by simp [g1])
  refine .ae rfl (λ c2=> ?_) λ c2=> ?_
  ·refine .skip<| .block<| .seq ?_
   obtain ⟨x,hx⟩:∃ x,hd[z.toNat]? =some x:=⟨_,py (by omega)⟩
   have hxr:=hf.rg _ x hx
   refine .region<| .a 4 rfl (.j4 (j:=z.toNat) (E:=aa .i64) aQ rfl (fN (z:=z) (n:=z.toNat) (by omega)) (s4.ah 1 rfl) (by omega))<| .f rfl (.cH (a:=(k+1)) 1 cQ s4 rfl rfl rfl rfl (by omega) λ _ s5 _=> ?_)
   have s5:=s5.nn
   refine .nil<| .region<| .a 2 rfl (.j4 (j:=z.toNat) (E:=Kw.encI .i64) aQ rfl (fN (z:=z) (n:=z.toNat) (by omega)) (hv.ext s5.ext) (by omega))<| .le 0 (hv.ext s5.ext) hx rfl<| .Z rfl ?_
   exact ⟨(x,sv,se.set z.toNat (k+1)),(wk rfl),⟨s5,by omega,by rw [PJ];exact hsl,Jw hsv hrk hx (by omega)⟩,(show ((if (x)<0 then 0 else rank (x).toNat+1))<((if z<0 then 0 else rank z.toNat+1)) from by have:=hrk _ x hx;rw [M2 (show ¬ z<0 by omega)];split;omega;have:=this (by omega);omega)⟩
  refine .ao<| .seq<| .seq<| .bN 66 (((((z:Int)<(0:Int))\/(((hd.length:Nat):Int)<=(z:Int)))\/(s≠(k+1)))\/(False)) ?_ ?_
  ·refine .a 1 rfl (.lss rfl rfl)<| .z 1 rfl<| .B 46 rfl (λ g3=> ?_) λ g3=> ?_
   ·refine .M rfl (by simp [g3])
   refine .ln 2 (hv.ext s4.ext) rfl<| .a 0 rfl (.geq rfl rfl)<| .z 2 rfl<| .B 52 rfl (λ g4=> ?_) λ g4=> ?_
   ·refine .M rfl (by simp [g3,g4])
   refine .a 2 rfl (.j4 (j:=z.toNat) (E:=aa .i64) aQ rfl (fN (z:=z) (n:=z.toNat) (by omega)) (s4.ah 1 rfl) (by omega))<| .le 0 (s4.ah 1 rfl) (hs9 (by omega)) rfl<| .z 5 rfl<| .B 61 rfl (λ g5=> ?_) λ g5=> ?_
   ·refine .M rfl (by simp [g3,g4,g5])
   refine .a 2 rfl (.j4 (j:=z.toNat) (E:=jb) nZ rfl (fN (z:=z) (n:=z.toNat) (by omega)) (s4.ah 0 rfl) (by simp;omega))<| .le 0 (s4.ah 0 rfl) (by rw [Ro,PI (by omega)]) rfl ?_
   refine .M rfl (by simp [g3,g4,g5])
  refine .ea rfl (PM (LN hz hsl hs9 hsv))<| .ao<| .U rfl ?_
  exact aT (k+1,sv,se) ⟨s4,hsl,λ j v h=>(hsv j v h).1⟩
 refine .ao<| .Z rfl<| .aC rfl rfl ?_
 exact s3.pk [0]
theorem Cw (c:Co) (n:Nat) (w:World) (hr:RdC w c) (ho:OkC n c) (hn:n<=3):
  CallsV prog 75 [(.agg #[c.va,c.vt,c.vx,c.vr,c.vn,c.vh,c.vl])] w λ r w'=>r= .tuple #[.int .i64 ((0:Nat):Int),.int .i64 ((0:Nat):Int)]/\Sat w [] w':=by
 have htk:=ho.ntk
 have htx:=ho.ntx
 have hrg:=ho.nrg
 have hnd:=ho.nnd
 have hat:=ho.at_.2
 have hhl:=ho.o6.1
 have hhm:c.hd.length<=36:=by rcases QF c.hd.length with q|q;omega;have:=(ho.o6.2 q).len.1;omega
 have hs0:=Sat.start w
 refine ai func75 rfl rfl ?_
 refine .h<| .bx 0 hs0 rfl λ b1 _ s1 _ _=> .Z rfl<| .h<| .ld 1 s1 0 rfl<| .ln 0 (hr.h.ext s1.ext) rfl<| .Z rfl<| .seq<| .block<| .seq<| .h<| .ld 2 s1 0 rfl<| .ln 0 (hr.l.ext s1.ext) rfl<| .Z rfl<| .aj rfl (IN (λ h=>h hhl))<| .bN 12 ((0<c.hd.length)/\(c.hd.length≠c.tk.length)) ?_ ?_
 ·refine .z 3 rfl<| .B 20 rfl (λ g1=> ?_) λ g1=> ?_
  ·refine .ld 2 s1 0 rfl<| .ln 0 (hr.t.ext s1.ext) rfl<| .M rfl (by simp [g1])
  refine .M rfl (by simp [g1])
 refine .aj rfl (IN (λ h=>h.2 (ho.o6.2 h.1).len.1))<| .seq<| .md [0,1,2,3,4] rfl (λ K L' w'=>Weak ([(27,(.bool (decide ((0<c.hd.length)/\(False)))))]++K) L'/\Sat w s1.L w') ?_ ?_
 ·refine .region<| .z 3 rfl<| .B 30 rfl (λ g2=> ?_) λ g2=> ?_
  ·refine .ld 1 s1 0 rfl<| .ld 1 s1 0 rfl<| .cp 0 s1 (zv _ _ (c.hd) (c.rl) _ (hr.h.ext s1.ext) (hr.l.ext s1.ext) (by omega) hhl (ho.o6.2 (by omega)).bare) rfl λ _ s2=> .Z rfl ?_
   exact ⟨⟨If some (If Value.bool (by simp [g2])),rfl,rfl,rfl,rfl,rfl,trivial⟩,s2⟩
  refine .Z rfl ?_
  exact ⟨⟨If some (If Value.bool (by simp [g2])),rfl,rfl,rfl,rfl,rfl,trivial⟩,s1⟩
 rintro L' w3 ⟨hw1,s3⟩
 refine .weaken _ hw1<| .aj rfl (IN (λ h=>h.2))<| .skip<| .h<| .ld 1 s3 0 rfl<| .c 0 (Cv _ (c.hd) _ _ (hr.h.ext s3.ext) (by omega) ho.PA) rfl λ r2 _ h_2=> ?_
 have s4:=s3.az h_2
 refine .Z rfl<| .seq<| .h<| .ld 1 s4 0 rfl<| .ln 0 (hr.h.ext s4.ext) rfl<| .Z rfl<| .block<| .lq [0,1,4,5,41,42] rfl (α:=Nat) (λ k=>[(43,(.int .i64 k))]) (λ k w'=>Sat w s4.L w') (λ k=>c.hd.length-k) 0 s4 ?_
 rintro k w5 s5
 refine .Z rfl<| .seq<| .ae rfl (λ c1=> ?_) λ c1=> ?_
 ·refine .skip<| .seq<| .block<| .seq ?_
  obtain ⟨x,hx⟩:∃ x,(c.hd)[k]? =some x:=⟨_,py c1⟩
  have hhd:=ho.o6.2 (by omega)
  have hlt:(k:Int)<(c.tk.length:Int):=by have:=hhd.len.1;omega
  obtain ⟨s,hs9⟩:∃ s,c.rl[k]? =some s:=⟨_,py (by have:=hhd.len;omega)⟩
  refine .region<| .ix 1 (hr.h.ext s5.ext) rfl<| .le 0 (hr.h.ext s5.ext) hx rfl<| .Z rfl<| .seq<| .dk [0,1] s5 rfl (pl [0,1,2,3] (.two 4 7 (pl [5,6,1007,1008] .fin) (pl [1004,5,6,1008] .fin))) λ s6 S1=> .ld 1 S1 0 rfl<| .e rfl (λ _ hS=> .fH gP rfl hS (i:=0) rfl rfl) S1<| .z 1 S1 rfl<| .two rfl rfl rfl rfl rfl rfl (OpE.call Mv rfl ((o8 c ((k:Nat):Int) _ (hr.ext s6.ext) (by omega) (ho.tx.cover (Tu k) hlt)).mono λ r3 _ h_3=> ?_)) (OpE.alloc s6 sx λ b2 _ s7 _ _=> ?_)
  ·obtain ⟨ti1,tt1,rfl,htt1,htt1b,htt1e,p3⟩:=h_3
   have s8:=(s6.az p3).nn
   have htt1l:=(AT.1 htt1).1
   have S2:=s8.pk [0,1]
   refine ⟨S2,?_⟩
   refine .ix 0 S2 (hr.x.ext ·.ext) rfl<| .lg 0 S2 (hr.x.ext ·.ext) htt1 rfl<| .f rfl (.alloc s8 sx λ b3 _ s9 _ _=> ?_)
   have S3:=s9.pk [0,1]
   refine ⟨S3,?_⟩
   refine .f rfl (.cz (vs:=(aG).enc tt1) yP s9 (i:=2) rfl rfl rfl rfl ((aG).one _) λ _ s10 _=> ?_)
   have S4:=s10.pk [0,1]
   refine ⟨S4,?_⟩
   refine .fin<| .block<| .seq<| .bN 55 (((x:Int)≠(-1:Int))/\(((x:Int)<(tt1.b:Int))\/((tt1.e:Int)<=(x:Int)))) ?_ ?_
   ·refine .a 1 rfl (.neq rfl rfl)<| .z 1 rfl<| .B 58 rfl (λ g3=> ?_) λ g3=> ?_
    ·refine .ld 2 s10 2 rfl<| .a 0 rfl (.lss rfl rfl)<| .z 1 rfl<| .B 63 rfl (λ g4=> ?_) λ g4=> ?_
     ·refine .M rfl (by simp [g3,g4])
     refine .ld 2 s10 2 rfl<| .a 0 rfl (.geq rfl rfl)<| .M rfl (by simp [g3,g4])
    refine .M rfl (by simp [g3])
   refine .aj rfl (IN (λ h=>(hhd.el k x hx).elim (λ e=>h.1 e) (λ ⟨t,h1,h2,h3,h4,h5⟩=>by have e:=ho.tx.same h1 (a7 htt1) ⟨h2,h3⟩ ⟨htt1b,htt1e⟩;subst e;omega)))<| .seq<| .md [0,1,4,5,6,7,8,41,42,43] rfl (λ K L' w'=>Weak ([(71,(.bool (decide ((s≠(ByteArray.mk #[]))/\((!(bC s))=true)))))]++K) L'/\Sat w s10.L w') ?_ ?_
   ·refine .region<| .ld 1 s10 0 rfl<| .ix 1 (hr.l.ext s10.ext) rfl<| .le 0 (hr.l.ext s10.ext) hs9 rfl<| .e rfl (.ed rfl rfl)<| .z 1 rfl<| .B 78 rfl (λ g5=> ?_) λ g5=> ?_
    ·refine .ld 1 s10 0 rfl<| .ix 1 (hr.l.ext s10.ext) rfl<| .le 0 (hr.l.ext s10.ext) hs9 rfl<| .cq 0 s10 (dH s _) rfl λ _ s11=> .a 0 rfl (.cO rfl)<| .Z rfl ?_
     exact ⟨⟨If some (If Value.bool (by simp [g5])),rfl,rfl,rfl,rfl,rfl,rfl,rfl,rfl,rfl,rfl,trivial⟩,s11⟩
    refine .Z rfl ?_
    exact ⟨⟨If some (If Value.bool (by simp [g5])),rfl,rfl,rfl,rfl,rfl,rfl,rfl,rfl,rfl,rfl,trivial⟩,s10⟩
   rintro L' w11 ⟨hw2,s12⟩
   refine .weaken _ hw2<| .aj rfl (IN (λ h=>(hhd.nm s (a7 hs9)).elim (λ e=>h.1 e) (λ e=>by have:=h.2;simp [e] at this)))<| .h<| .ix 2 (s12.ah 1 rfl) rfl (hj:=by simp;omega)<| .le 0 (s12.ah 1 rfl) (by rw [Ro,PI c1]) rfl ?_
   refine .Z rfl<| .aj rfl (rfl)<| .skip<| .U rfl ?_
   exact aT (k+1) (s12.pk [0,1])
  have s7:=s7.nn
  have S5:=s7.pk [0,1]
  refine ⟨S5,?_⟩
  refine .c 0 S5 (o8 c ((k:Nat):Int) _ (hr.ext s7.ext) (by omega) (ho.tx.cover (Tu k) hlt)) rfl λ r5 _ h_5=> ?_
  obtain ⟨ti2,tt2,rfl,htt2,htt2b,htt2e,p5⟩:=h_5
  have s14:=s7.az p5
  have htt2l:=(AT.1 htt2).1
  have S6:=s14.pk [0,1]
  refine ⟨S6,?_⟩
  refine .ix 0 S6 (hr.x.ext ·.ext) rfl<| .lg 0 S6 (hr.x.ext ·.ext) htt2 rfl<| .f rfl (.cz (vs:=(aG).enc tt2) yP s14 (i:=2) rfl rfl rfl rfl ((aG).one _) λ _ s15 _=> ?_)
  have S7:=s15.pk [0,1]
  refine ⟨S7,?_⟩
  refine .fin<| .block<| .seq<| .bN 55 (((x:Int)≠(-1:Int))/\(((x:Int)<(tt2.b:Int))\/((tt2.e:Int)<=(x:Int)))) ?_ ?_
  ·refine .a 1 rfl (.neq rfl rfl)<| .z 1 rfl<| .B 58 rfl (λ g6=> ?_) λ g6=> ?_
   ·refine .ld 2 s15 2 rfl<| .a 0 rfl (.lss rfl rfl)<| .z 1 rfl<| .B 63 rfl (λ g7=> ?_) λ g7=> ?_
    ·refine .M rfl (by simp [g6,g7])
    refine .ld 2 s15 2 rfl<| .a 0 rfl (.geq rfl rfl)<| .M rfl (by simp [g6,g7])
   refine .M rfl (by simp [g6])
  refine .aj rfl (IN (λ h=>(hhd.el k x hx).elim (λ e=>h.1 e) (λ ⟨t,h1,h2,h3,h4,h5⟩=>by have e:=ho.tx.same h1 (a7 htt2) ⟨h2,h3⟩ ⟨htt2b,htt2e⟩;subst e;omega)))<| .seq<| .md [0,1,4,5,6,7,8,41,42,43] rfl (λ K L' w'=>Weak ([(71,(.bool (decide ((s≠(ByteArray.mk #[]))/\((!(bC s))=true)))))]++K) L'/\Sat w s15.L w') ?_ ?_
  ·refine .region<| .ld 1 s15 0 rfl<| .ix 1 (hr.l.ext s15.ext) rfl<| .le 0 (hr.l.ext s15.ext) hs9 rfl<| .e rfl (.ed rfl rfl)<| .z 1 rfl<| .B 78 rfl (λ g8=> ?_) λ g8=> ?_
   ·refine .ld 1 s15 0 rfl<| .ix 1 (hr.l.ext s15.ext) rfl<| .le 0 (hr.l.ext s15.ext) hs9 rfl<| .cq 0 s15 (dH s _) rfl λ _ s16=> .a 0 rfl (.cO rfl)<| .Z rfl ?_
    exact ⟨⟨If some (If Value.bool (by simp [g8])),rfl,rfl,rfl,rfl,rfl,rfl,rfl,rfl,rfl,rfl,trivial⟩,s16⟩
   refine .Z rfl ?_
   exact ⟨⟨If some (If Value.bool (by simp [g8])),rfl,rfl,rfl,rfl,rfl,rfl,rfl,rfl,rfl,rfl,trivial⟩,s15⟩
  rintro L' w15 ⟨hw3,s17⟩
  refine .weaken _ hw3<| .aj rfl (IN (λ h=>(hhd.nm s (a7 hs9)).elim (λ e=>h.1 e) (λ e=>by have:=h.2;simp [e] at this)))<| .h<| .ix 2 (s17.ah 1 rfl) rfl (hj:=by simp;omega)<| .le 0 (s17.ah 1 rfl) (by rw [Ro,PI c1]) rfl ?_
  refine .Z rfl<| .aj rfl (rfl)<| .skip<| .U rfl ?_
  exact aT (k+1) (s17.pk [0,1])
 refine .ao<| .Z rfl<| .cj rfl rfl rfl ?_
 exact ⟨rfl,s5.pk []⟩
def N7:Enc FuncId:=⟨1,λ f=>[.func (.func f) #[] #[]],λ _=>rfl,λ x u h=>by simp at h;subst h;rfl⟩
def E0:Fn->FuncId
 | .func f=>f
 |_=>0
abbrev Ef:List FuncId:=[E0 (.func 70),E0 (.func 71),E0 (.func 72),E0 (.func 73),E0 (.func 74),E0 (.func 75)]
theorem I9 {c:Co} {n:Nat} (ho:OkC n c) (hn:n<=3) {k:Nat} {x:FuncId} (hx:Ef[k]? =some x):Enters prog x/\∀ w,RdC w c->CallsV prog x [c.val] w λ r w'=>r= .tuple #[.int .i64 ((0:Nat):Int),.int .i64 ((0:Nat):Int)]/\Sat w [] w':=by
 have h:=a7 hx
 simp only [PR,PU,Q9] at h
 rcases h with rfl|rfl|rfl|rfl|rfl|rfl
 ·exact ⟨O2,λ w hr=>Cs c n w hr ho hn⟩
 ·exact ⟨O3,λ w hr=>zt c n w hr ho hn⟩
 ·exact ⟨O4,λ w hr=>Ct c n w hr ho hn⟩
 ·exact ⟨O5,λ w hr=>wW c n w hr ho hn⟩
 ·exact ⟨O6,λ w hr=>Cu c n w hr ho hn⟩
 exact ⟨O7,λ w hr=>Cw c n w hr ho hn⟩
theorem wX (c:Co) (n:Nat) (w:World) (hr:RdC w c) (ho:OkC n c) (hn:n<=3):
  CallsV prog 27 [(.agg #[c.va,c.vt,c.vx,c.vr,c.vn,c.vh,c.vl])] w λ r w'=>r= .tuple #[.int .i64 ((0:Nat):Int),.int .i64 ((0:Nat):Int),.int .i64 ((0:Nat):Int)]/\Sat w [] w':=by
 refine cg func27 rfl λ hs0=> .h<| .bx 0 hs0 rfl λ b1 _ s1 _ _=> .Z rfl<| .h<| .f rfl (.gW (N7) [E0 (.func 70),E0 (.func 71),E0 (.func 72),E0 (.func 73),E0 (.func 74),E0 (.func 75)] KT rfl ⟨rfl,rfl,rfl,rfl,rfl,rfl,trivial⟩ rfl rfl rfl rfl (by decide) (by decide) s1 λ v1 _ s2 _=> ?_)
 refine .Z rfl<| .seq<| .h<| .ln 1 (s2.ah 1 rfl) rfl<| .Z rfl<| .block<| .lq [0,1,5,11,12] rfl (α:=Nat) (λ k=>[(13,(.int .i64 k))]) (λ k w'=>Sat w s2.L w') (λ k=>Ef.length-k) 0 s2 ?_
 rintro k w3 s3
 refine .Z rfl<| .seq<| .ae rfl (λ c1=> ?_) λ c1=> ?_
 ·refine .skip<| .seq<| .block<| .seq ?_
  obtain ⟨x,hx⟩:∃ x,(Ef)[k]? =some x:=⟨_,py c1⟩
  have hok:=I9 ho hn hx
  have hkv:k<Ef.length:=c1
  have hvl:Ef.length=6:=rfl
  refine .region<| .ix 1 (s3.ah 1 rfl) rfl<| .le 0 (s3.ah 1 rfl) hx rfl<| .Z rfl<| .h<| .lo 1 s3 0 rfl<| .f rfl (.yV hok.1 rfl rfl ((hok.2 _ (hr.ext s3.ext)).mono λ r1 _ h1=> ?_))
  obtain ⟨rfl,p1⟩:=h1
  have s4:=(s3.az p1).nn
  refine .Z rfl<| .Z rfl<| .aj rfl (rfl)<| .skip<| .U rfl ?_
  exact aT (k+1) s4
 refine .ao<| .Z rfl<| .ret ?_
 show aL _ _ _ _ _ _
 refine ie rfl rfl rfl rfl ?_
 exact ⟨rfl,s3.pk []⟩
theorem dj (bv:Value) (l:List Nat) (v:Nat) (w:World) (hb:RdL w bv (aa .u8) l) (hn:l.length<=1000000000000) (hv:v<2^64):
  CallsV prog 76 [bv,(.int .u64 v)] w λ r w'=>Sat w [cL r 5 (aa .u8) (l++uv v)] w':=by
 refine cg func76 rfl λ hs0=> .Z rfl<| .h<| .ln 1 (hb.ext hs0.ext) rfl<| .ln 1 (hb.ext hs0.ext) rfl<| .b 1 rfl (.cP (aa .u8) (0) ch rfl hs0 rfl rfl (by omega) (by omega) (by omega) λ v1 _ s1 _=> ?_)
 refine .Z rfl<| .h<| .b 2 rfl (.On 0 ch rfl s1 rfl rfl rfl (hb.ext s1.ext) λ w2 s2 _=> ?_)
 have s2d:Sat w [cL v1 5 (aa .u8) (l)] w2:=by
  have hq:(l).take (List.replicate (l.length) 0).length++(List.replicate (l.length) 0).drop (l).length=l:=by simp
  rw [<-hq];exact s2
 refine .nil<| .seq<| .block<| .loop (α:=Nat×Value×List Nat) (λ (v2,out,acc)=>[(1,(.int .u64 v2)),(5,out)]) (λ (v2,out,acc) w'=>Sat w [cL out 5 (aa .u8) (acc)] w'/\(v2<2^64)/\(acc++uv v2=l++uv v)) (λ (v2,out,acc)=>v2) (v,v1,l) (wk rfl) ⟨s2d,hv,rfl⟩ ?_
 rintro ⟨v2,out,acc⟩ w3 ⟨s3,hv2,hacc⟩
 have hl2:=If List.length hacc
 simp only [sp] at hl2
 have hu1:=aD v
 have hu2:=Gc v2
 refine .seq<| .Z rfl<| .ae rfl (λ c1=> ?_) λ c1=> ?_
 ·refine .skip<| .block<| .h<| .a 2 rfl (.gR (by rw [underlying132]<;>rfl) underlying5 rfl rfl)<| .b 1 rfl (.bU (aa .u8) ((v2%2^8)|||128) ch rfl s3 rfl λ v_2 _ s4 _=> ?_)
  refine .ap 0 s4 0 (s4.ah 1 rfl) rfl λ v3 _ s5 _=> ?_
  refine .Z rfl<| .U rfl ?_
  exact aT ((v2/2^7),v3,acc++[((v2%2^8)|||128)]) ⟨s5.pk [0],by omega,by rw [<-hacc,BM v2 hv2 c1];simp⟩
 refine .ao<| .h<| .a 2 rfl (.gR (by rw [underlying132]<;>rfl) underlying5 rfl rfl)<| .f rfl (.bU (aa .u8) (v2%2^8) ch rfl s3 rfl λ v_4 _ s6 _=> ?_)
 refine .ap 0 s6 0 (s6.ah 1 rfl) rfl λ v5 _ s7 _=> ?_
 refine .Z rfl<| .aC rfl rfl ?_
 have hq:acc++[v2%2^8]=l++uv v:=by rw [<-hacc,yg v2 (by omega)]
 rw [<-hq];exact s7.pick [0] rfl
theorem mK (x:Nat) (w:World) (hx:x<2^64):CallsV prog 168 [.int .u64 (x:Int)] w λ r w'=>r= .int .i64 ((Lib.bitLen x:Nat):Int)/\Sat w [] w':=by
 refine Rg (Tryz.bits_Len64 (x:Int) w (by omega) (by omega)) ?_
 rintro e w' ⟨rfl,rfl⟩
 exact ⟨_,rfl,by simp,Sat.start _⟩
theorem j6 (w:World):
  CallsV prog 129 [] w λ r w'=>∃ g,r= .pointer (some ⟨g,0,none⟩)/\Sat w [aq g 256 [.slice none 0 0,.int .i64 0],cL (.slice none 0 0) 5 (aa .u8) []] w':=by
 refine cg func129 rfl λ hs0=> .Z rfl<| .h<| .e rfl (.build NX rfl trivial rfl)<| .bx 0 hs0 rfl λ b1 _ s1 _ _=> .Z rfl<| .aC rfl rfl ?_
 exact ⟨_,rfl,s1.aA 5 (aa .u8)⟩
theorem Ia (w0 w:World) (cs:List Chunk) (g:Nat) (v:Value) (bits:List Bool) (x:Nat) (hs:Sat w0 ([aq g 256 [v,.int .i64 (((bits).length:Nat):Int)],cL v 5 (aa .u8) (aH (bits))]++cs) w) (hx:x<2^64) (hn:bits.length<=1000000000000):
  CallsV prog 235 [(.pointer (some ⟨g,0,none⟩)),(.int .u64 x)] w λ r w'=>r= .tuple #[]/\∃ v',Sat w0 ([aq g 256 [v',.int .i64 (((bits++[decide (x%2^1=1)]).length:Nat):Int)],cL v' 5 (aa .u8) (aH (bits++[decide (x%2^1=1)]))]++cs) w':=by
 refine ai func235 rfl rfl ?_
 refine .jn [0,1] rfl (λ K L' w'=>∃ (v1:Value),Weak K L'/\Sat w0 ([aq g 256 [v1,(.int .i64 ((bits).length:Nat))],cL v1 5 (aa .u8) (gI bits)]++cs) w') ?_ ?_
 ·refine .seq ?_
  have hpl:=bc bits
  refine .region<| .ld 3 hs 0 rfl<| .e rfl (.HC (b:=7) 3 rfl rfl (by decide) (by omega) (by decide))<| .Z rfl<| .ae rfl (λ c1=> ?_) λ c1=> ?_
  ·refine .region<| .ld 4 hs 0 rfl<| .f rfl (.bU (aa .u8) 0 ch rfl hs rfl λ v_1 _ s1 _=> ?_)
   have s1d:=s1.mn
   refine .ap 0 s1d 1 (s1d.ah 2 rfl) rfl λ v2 _ s2 _=> ?_
   have s2d:=(s2.sn).pt [0,1]
   refine .st 2 s2d 0 rfl (h1:=(s2d.ah 1 rfl).ab) λ w3 s3 _=> ?_
   have s3d:=s3.sn
   refine .nil ?_
   have s4:Sat w0 ([aq g 256 [v2,(.int .i64 ((bits).length:Nat))],cL v2 5 (aa .u8) (gI bits)]++cs) w3:=by
    have hq:aH (bits)++[0]=gI bits:=by unfold gI;rw [PI c1]
    rw [<-hq];exact s3d
   exact ⟨v2,(wk rfl),s4⟩
  refine .skip ?_
  have s5:Sat w0 ([aq g 256 [v,(.int .i64 ((bits).length:Nat))],cL v 5 (aa .u8) (gI bits)]++cs) w:=by
   have hq:aH (bits)=gI bits:=by unfold gI;rw [M2 c1]
   rw [<-hq];exact hs
  exact ⟨v,(wk rfl),s5⟩
 rintro L' w4 ⟨v1,hw1,s6⟩
 refine .weaken _ hw1<| .jn [0] rfl (λ K L' w'=>Weak K L'/\Sat w0 (s6.V [(1,cL v1 5 (aa .u8) (aH (bits++[decide (x%2^1=1)])))]++cs) w') ?_ ?_
 ·refine .Z rfl<| .ae rfl (λ c2=> ?_) λ c2=> ?_
  ·have hshp1:=(s6.ah (E:=aa .u8) 1 rfl).iH (by decide)
   refine .dt [0] s6 rfl (pl [0,1,2,3,4,5,6,7,8,11,12,13,14,15,16,1009,1010,17,1018,1019] .fin) λ s7 S1=> .ld 3 S1 0 rfl<| .ld 3 S1 0 rfl<| .ld 4 S1 0 rfl<| .e rfl (λ _ s=> .HC (b:=7) 3 rfl rfl (by decide) (by omega) (by decide)) S1<| .z 1 S1 rfl<| .f rfl (.ev (Ev.j4 (E:=aa .u8) ch rfl rfl (s7.ah 1 rfl) (by rw [ji];omega)) ⟨S1,?_⟩)
   refine .f rfl (.ev (Ev.OK (E:=aa .u8) NN rfl (s7.ah 1 rfl) (DB bits) (by decide) rfl) ⟨S1,?_⟩)
   refine .e rfl (λ _ s=> .Pz rfl rfl rfl (by first|exact l1 _ _|(simp only [IntKind.bits];have:=QH 128 (2^(bits.length%2^3));omega)) (by first|exact l1 _ _|(simp only [IntKind.bits];have:=QH 128 (2^(bits.length%2^3));omega))) S1<| .f rfl (.ev (Ev.j4 (E:=aa .u8) ch rfl rfl (s7.ah 1 rfl) (by rw [ji];omega)) ⟨S1,?_⟩)
   refine .f rfl (.cH (a:=((cA bits (bits.length/2^3))|||(128/2^((bits).length%2^3)))) 1 NO s7 rfl rfl rfl rfl (by rw [ji];omega) λ w5 s8 _=> ?_)
   have s8d:=s8.sn
   have S2:=s8d.pt [0]
   refine ⟨S2,?_⟩
   refine .fin ?_
   have s9:Sat w0 ([aq g 256 [v1,(.int .i64 ((bits).length:Nat))],cL v1 5 (aa .u8) (aH (bits++[decide (x%2^1=1)]))]++cs) w5:=by
    have hq:(gI bits).set ((bits).length/2^3) ((cA bits (bits.length/2^3))|||(128/2^((bits).length%2^3)))=aH (bits++[decide (x%2^1=1)]):=by rw [PM c2,Av]
    rw [<-hq];exact s8d
   exact ⟨⟨rfl,trivial⟩,s9⟩
  refine .skip ?_
  have s10:Sat w0 ([aq g 256 [v1,(.int .i64 ((bits).length:Nat))],cL v1 5 (aa .u8) (aH (bits++[decide (x%2^1=1)]))]++cs) w4:=by
   have hq:gI bits=aH (bits++[decide (x%2^1=1)]):=by rw [IN c2,yh]
   rw [<-hq];exact s6
  exact ⟨⟨rfl,trivial⟩,s10⟩
 rintro L' w6 ⟨hw2,s11⟩
 refine .weaken _ hw2<| .region<| .ld 3 s11 0 rfl<| .st 3 s11 0 rfl λ _ s12 _=> ?_
 have s12d:=s12.sn
 refine .nil ?_
 show aL _ _ _ _ _ _
 refine cv rfl ?_
 refine ⟨rfl,v1,?_⟩
 rw [show (bits++[decide (x%2^1=1)]).length=bits.length+1 by simp];exact s12d
theorem pP (w0 w:World) (cs:List Chunk) (g:Nat) (v:Value) (bits:List Bool) (x m:Nat) (hs:Sat w0 ([aq g 256 [v,.int .i64 (((bits).length:Nat):Int)],cL v 5 (aa .u8) (aH (bits))]++cs) w) (hx:x<2^64) (hm:m<=64) (hn:bits.length+m<=1000000000):
  CallsV prog 192 [(.pointer (some ⟨g,0,none⟩)),(.int .u64 x),(.int .i64 m)] w λ r w'=>r= .tuple #[]/\∃ v',Sat w0 ([aq g 256 [v',.int .i64 (((bits++aX x m).length:Nat):Int)],cL v' 5 (aa .u8) (aH (bits++aX x m))]++cs) w':=by
 refine ai func192 rfl rfl ?_
 refine .h<| .a 1 rfl (.sub (b:=(1:Int)) rfl rfl (by unfold aY;omega))<| .Z rfl<| .block<| .lq [0,1] rfl (α:=Nat×Value×List Bool) (λ (m1,v1,bs)=>[(6,(.int .i64 ((((m1:Nat):Int)-1))))]) (λ (m1,v1,bs) w'=>Sat w0 ([aq g 256 [v1,(.int .i64 ((bs).length:Nat))],cL v1 5 (aa .u8) (aH (bs))]++cs) w'/\(m1<=m)/\(bs++aX x m1=bits++aX x m)) (λ (m1,v1,bs)=>m1) (m,v,bits) ⟨hs,KB _,rfl⟩ ?_
 rintro ⟨m1,v1,bs⟩ w1 ⟨s1,hm1,hacc⟩
 refine .seq<| .h<| .a 1 rfl (.geq rfl rfl)<| .nil<| .ae rfl (λ c1=> ?_) λ c1=> ?_
 ·refine .skip<| .seq<| .block ?_
  obtain ⟨j,rfl⟩:∃ j,m1=j+1:=⟨m1-1,by omega⟩
  refine .weaken [(0,_),(1,_),(6,(.int .i64 j)),(9,_)] ⟨rfl,rfl,If some (If (Value.int .i64) (by omega)),rfl,trivial⟩ ?_
  have hl2:=If List.length hacc
  simp only [sp,aF] at hl2
  have hshp1:=(s1.ah (E:=aa .u8) 1 rfl).iH (by decide)
  refine .dt [] s1 rfl (pl [0,1,2,3,4,5,1006] .fin) λ s2 S1=> .z 5 S1 rfl<| .e rfl (λ _ s=> .Ke rfl rfl (hx)) S1 ?_
  have A1:=s2.oc [0,1] 2
  refine .c 0 S1 (Ia _ _ _ _ _ (bs) ((x/2^j)) A1 (SR (QH _ _) hx) (by omega)) rfl λ r1 _ h1=> ?_
  obtain ⟨rfl,wv1,p1⟩:=h1
  have s3:=p1.join.od [0,1]
  have S2:=s3.pt []
  refine ⟨S2,?_⟩
  refine .fin<| .region<| .a 1 rfl (.sub (b:=(1:Int)) rfl rfl (by unfold aY;omega))<| .Z rfl ?_
  exact ⟨(j,wv1,bs++[decide ((x/2^j)%2^1=1)]),(wk rfl),⟨s3,by omega,by rw [<-hacc];simp [aX]⟩,(show ((j))<(j+1) from by omega)⟩
 refine .ao ?_
 show aL _ _ _ _ _ _
 refine cv rfl ?_
 have h0:m1=0:=by omega
 subst h0
 rw [show bs=bits++aX x m by rw [<-hacc];simp [aX]] at s1
 exact ⟨rfl,v1,s1⟩
theorem wY (w0 w:World) (cs:List Chunk) (g:Nat) (v:Value) (bits:List Bool) (x m:Nat) (hs:Sat w0 ([aq g 256 [v,.int .i64 (((bits).length:Nat):Int)],cL v 5 (aa .u8) (aH (bits))]++cs) w) (hx:x<2^m) (hm:m<=64) (hn:bits.length+m<=1000000000):
  CallsV prog 234 [(.pointer (some ⟨g,0,none⟩)),(.int .u64 x),(.int .i64 m)] w λ r w'=>r= .int .i64 0/\∃ v',Sat w0 ([aq g 256 [v',.int .i64 (((bits++aX x m).length:Nat):Int)],cL v' 5 (aa .u8) (aH (bits++aX x m))]++cs) w':=by
 have hx64:x<2^64:=RX hx (Qg (by decide) hm)
 have hbl:=bitLen_le hx
 refine ai func234 rfl rfl ?_
 refine .Z rfl<| .seq<| .seq<| .md [0,1,2,6] rfl (λ K L' w'=>Weak ([(18,(.bool (decide (((m<0)\/(64<m))\/(m<(Lib.bitLen (x)))))))]++K) L'/\Sat w0 hs.L w') ?_ ?_
 ·refine .region<| .z 3 rfl<| .B 9 rfl (λ g1=> ?_) λ g1=> ?_
  ·refine .Z rfl ?_
   exact ⟨⟨If some (If Value.bool (by simp [g1])),rfl,rfl,rfl,rfl,trivial⟩,hs⟩
  refine .z 4 rfl<| .B 13 rfl (λ g2=> ?_) λ g2=> ?_
  ·refine .Z rfl ?_
   exact ⟨⟨If some (If Value.bool (by simp [g1,g2])),rfl,rfl,rfl,rfl,trivial⟩,hs⟩
  refine .cm 1 hs (mK (x) _ (by omega)) rfl λ _ s1=> .Z rfl ?_
  exact ⟨⟨If some (If Value.bool (by simp [g1,g2])),rfl,rfl,rfl,rfl,trivial⟩,s1⟩
 rintro L' w2 ⟨hw1,s2⟩
 refine .weaken _ hw1<| .aj rfl (IN (by omega))<| .skip<| .h<| .z 3 rfl ?_
 have A1:=s2.oc [0,1] 2
 refine .c 0 (pP _ _ _ _ _ (bits) (x) (m) A1 (hx64) (hm) (hn)) rfl λ r2 _ h2=> ?_
 obtain ⟨rfl,wv1,p2⟩:=h2
 have s3:=p2.join.od [0,1]
 refine .nil<| .Z rfl<| .aC rfl rfl ?_
 exact ⟨rfl,_,s3⟩
theorem o9 (g:Nat) (v:Value) (l:List Nat) (w:World) (hc:w.cell? ⟨g,0,none⟩=some v) (hv:RdL w v (aa .u8) l) (hn:l.length<=1000000000000):
  CallsV prog 132 [(.pointer (some ⟨g,0,none⟩))] w λ r w'=>Sat w [cL r 5 (aa .u8) l] w':=by
 refine cg func132 rfl λ hs0=> .Z rfl<| .h<| .f rfl (.tg (aa .u8) ch hs0 λ v1 _ s1 _=> ?_)
 refine .a 4 rfl (.load AK rfl (s1.ext _ _ hc))<| .ap 0 s1 0 (hv.ext s1.ext) rfl λ v2 _ s2 _=> .Z rfl<| .aC rfl rfl ?_
 exact s2
theorem qz (g m:Nat) (w:World) (hc:w.cell? ⟨g,1,none⟩=some (.int .i64 (m:Int))):
  CallsV prog 190 [(.pointer (some ⟨g,0,none⟩))] w λ r w'=>r= .int .i64 (m:Int)/\Sat w [] w':=by
 refine cg func190 rfl λ hs0=> .Z rfl<| .h<| .a 3 rfl (.load gO rfl (hs0.ext _ _ hc))<| .Z rfl<| .aC rfl rfl ?_
 exact ⟨rfl,hs0⟩
theorem uP (g m:Nat) (w:World) (hc:w.cell? ⟨g,1,none⟩=some (.int .i64 (m:Int))):
  CallsV prog 130 [(.pointer (some ⟨g,0,none⟩))] w λ r w'=>r= .int .i64 (m:Int)/\Sat w [] w':=by
 refine cg func130 rfl λ hs0=> .Z rfl<| .h<| .cp 3 hs0 (qz _ (m) _ (hs0.ext _ _ hc)) rfl λ _ s1=> .Z rfl<| .aC rfl rfl ?_
 exact ⟨rfl,s1⟩
end Go.Proofs.YthffkcnbdehceaaGreat
