/-The walks of the functions of F41e,printed by our own program (kwgen.py) out of our descriptions (base.py). -/
import Derived.Test.YthffkcnbdehceaaGreatF41
import Derived.Test.YthffkcnbdehceaaGreatF14q
import Derived.Test.YthffkcnbdehceaaGreatM41e
import Derived.Test.YthffkcnbdehceaaGreatKms
open List
open Go.Proofs.Tryz
set_option linter.unusedVariables false
set_option linter.unusedSimpArgs false
set_option linter.unusedSectionVars false
namespace Go.Proofs.YthffkcnbdehceaaGreat
open Go.RowKit Go.Kw
set_option maxRecDepth 100000
theorem IE (v:Value) (acc:List Nat) (n:Nat) (w:World) (hv:RdL w v (aa .u8) acc) (hn:n<2^64) (ha:acc.length<=100000000000):
  CallsV prog 91 [v,(.int .u64 n)] w λ r w'=>Sat w [cL r 5 (aa .u8) (acc++uv n)] w':=by
 have hu:=aD n
 have hs0:=Sat.start w
 refine ai func91 rfl rfl ?_
 refine .Z rfl<| .h<| .z 1 rfl ?_
 have s1:=hs0.aA 5 (aa .u8)
 refine .ap 0 s1 0 (hv.ext s1.ext) rfl (h1:=by (try simp only [sp,KY,ay]);omega) (h2:=by (try simp only [sp,KY,ay]);omega) λ v1 _ s2 _=> .c 1 (cT (n) _ (hn)) rfl λ r1 _ h_1=> ?_
 have s3:=s2.az h_1
 refine .ap 0 s3 0 (s3.ah 1 rfl) rfl (h1:=by (try simp only [sp,KY,ay]);omega) (h2:=by (try simp only [sp,KY,ay]);omega) λ v2 _ s4 _=> .Z rfl<| .aC rfl rfl ?_
 exact s4.pk [0]
theorem eh (v:Value) (acc:List Nat) (n:Nat) (w:World) (hv:RdL w v (aa .u8) acc) (hn:n<2^62) (ha:acc.length<=100000000000):
  CallsV prog 36 [v,(.int .i64 n)] w λ r w'=>Sat w [cL r 5 (aa .u8) (acc++uv n)] w':=by
 refine cg func36 rfl λ hs0=> .Z rfl<| .h<| .c 3 (IE _ (acc) (n) _ (hv.ext hs0.ext) (by omega) (by omega)) rfl λ r1 _ h1=> ?_
 have s1:=hs0.az h1
 refine .Z rfl<| .aC rfl rfl ?_
 exact s1.pk [0]
theorem fb (v:Value) (acc:List Nat) (z:Int) (w:World) (hv:RdL w v (aa .u8) acc) (hz:0<=z/\z<2^62) (ha:acc.length<=100000000000):CallsV prog 36 [v,.int .i64 z] w λ r w'=>Sat w [cL r 5 (aa .u8) (acc++uv z.toNat)] w':=by
 obtain ⟨n,rfl⟩:=Int.eq_ofNat_of_zero_le hz.1
 exact eh v acc n w hv (by omega) ha
theorem fo (v:Value) (acc:List Nat) (s:ByteArray) (w:World) (hv:RdL w v (aa .u8) acc) (ha:acc.length+s.size<=10000000000):
  CallsV prog 39 [v,(.string s)] w λ r w'=>Sat w [cL r 5 (aa .u8) (acc++cr s)] w':=by
 have hu:=aD s.size
 have hs0:=Sat.start w
 refine ai func39 rfl rfl ?_
 refine .Z rfl<| .h<| .a 2 rfl (.bo underlying9 rfl)<| .c 0 (eh _ (acc) (s.size) _ (hv.ext hs0.ext) (by omega) (by omega)) rfl λ r1 _ h1=> ?_
 have s1:=hs0.az h1
 refine .b 1 rfl (.gu 0 ch s1 rfl rfl rfl (oq underlying9 _) (by (try simp only [sp,KY,ay]);omega) (by (try simp only [sp,KY,ay]);omega) λ v1 _ s2 _=> ?_)
 refine .Z rfl<| .aC rfl rfl ?_
 have s4:=(s2.pk [0]).aZ 0 rfl (show acc++uv (s.size)++bF s=acc++cr s from by unfold cr;rw [LW])
 exact s4
theorem Ba (v:Value) (acc:List Nat) (vp:Value) (ps:List Pr) (w:World) (hv:RdL w v (aa .u8) acc) (hp:RdL w vp aU ps) (h:okPs ps) (ha:acc.length<=1000000000):
  CallsV prog 38 [v,vp] w λ r w'=>Sat w [cL r 5 (aa .u8) (acc++pw ps)] w':=by
 have h8:=h.1
 have hu:=aD ps.length
 have hs0:=Sat.start w
 refine ai func38 rfl rfl ?_
 refine .Z rfl<| .h<| .ln 2 (hp.ext hs0.ext) rfl<| .c 0 (eh _ (acc) (ps.length) _ (hv.ext hs0.ext) (by omega) (by omega)) rfl λ r1 _ h1=> ?_
 have s1:=hs0.az h1
 refine .Z rfl<| .seq<| .h<| .ln 1 (hp.ext s1.ext) rfl<| .Z rfl<| .block ?_
 refine .lq [1,4,11,12] rfl (α:=Nat×Value×List Nat) (λ (k,sv,bs)=>[(0,sv),(13,(.int .i64 k))]) (λ (k,sv,bs) w'=>Sat w [cL sv 5 (aa .u8) (bs)] w'/\(k<=ps.length)/\(bs=acc++uv ps.length++(ps.take k).flatMap (λ p:Pr=>cr p.1++cr p.2))/\(bs.length<=acc.length+10+172*k)) (λ (k,sv,bs)=>ps.length-k) (0,r1,acc++uv (ps.length)) ⟨s1.pick [0] rfl,KD _,by simp,by rw [sp];omega⟩ ?_
 rintro ⟨k,sv,bs⟩ w2 ⟨s3,hk,hbs,hbl⟩
 refine .Z rfl<| .seq<| .ae rfl (λ c1=> ?_) λ c1=> ?_
 ·refine .skip<| .seq<| .block<| .seq ?_
  obtain ⟨x,hx⟩:∃ x,(ps)[k]? =some x:=⟨_,py c1⟩
  have hz:=BC h hx
  have ht1:=bK x.1
  have ht2:=bK x.2
  refine .region<| .ix 0 (hp.ext s3.ext) rfl<| .lg 0 (hp.ext s3.ext) hx rfl<| .al 0 s3 rfl λ b1 _ s4 _ _=> .sa 0 s4 1 rfl ((aU).one _) λ _ s5 _=> .nil<| .dk [0,1] s5 rfl (pl [0,1,2,4,5,1003,1006,7] .fin) λ s6 S1=> .ld 2 S1 1 rfl<| .ld 1 S1 1 rfl<| .c 0 S1 (fo _ (bs) x.1 _ (s6.ah 0 rfl) (by (try simp only [sp,KY,ay]);omega)) rfl λ r2 _ h2=> ?_
  have s7:=(s6.az h2).nn
  have S2:=s7.pk [0,1]
  refine ⟨S2,?_⟩
  refine .c 0 S2 (fo _ (bs++cr x.1) x.2 _ (s7.ah 2 rfl) (by (try simp only [sp,KY,ay]);omega)) rfl λ r3 _ h3=> ?_
  have s8:=s7.az h3
  have S3:=s8.pk [0,1]
  refine ⟨S3,?_⟩
  refine .Z S3 rfl<| .U rfl ?_
  exact aT (k+1,r3,bs++cr x.1++cr x.2) ⟨s8.pk [3],by omega,by rw [ij hx,hbs];simp only [LW],by (try simp only [sp]);omega⟩
 refine .ao<| .Z rfl<| .aC rfl rfl ?_
 have s10:=s3.pk [0]
 have he:bs=acc++pw ps:=by rw [hbs,PV (by omega)];unfold pw;rw [LW]
 rw [he] at s10
 exact s10
theorem xu {v:Value} {vs:List ByteArray} {w:World} (hv:RdL w v ax vs) (h:dn vs=0):CallsV prog 142 [v] w λ r w'=>∃ vw vc vn,r= .tuple #[.agg #[vw,vc],vn,.int .i64 0]/\Sat w [cL vw 9 ax (a8 vs),cL vc 3 (aa .i64) (ar vs),cL vn 3 (aa .i64) (vs.map (bJ (a8 vs)))] w':=
 (CD v vs w hv).mono λ r w' hq=>by rcases hq with ⟨h0,_⟩|⟨_,h1⟩;exact absurd h h0;exact h1
theorem CV (v:Value) (us:List ByteArray) (w:World) (hv:RdL w v ax us) (hbe:dn us=0):
  CallsV prog 92 [v] w λ r w'=>Sat w [cL r 5 (aa .u8) (lexB us)] w':=by
 have hs0:=Sat.start w
 refine ai func92 rfl rfl ?_
 refine .Z rfl<| .h<| .c 1 (xu (hv.ext hs0.ext) hbe) rfl λ r1 _ h1=> ?_
 obtain ⟨rvw1,rvc1,rvn1,rfl,p1⟩:=h1
 have s1:=hs0.az p1
 refine .al 4 s1 rfl λ b1 _ s2 _ _=> .sa 0 s2 3 (vs:=[rvw1,rvc1]) rfl (λ v h=>by simp only [PR,PU,Q9] at h;rcases h with rfl|rfl;exact (s2.ah 0 rfl).ab;exact (s2.ah 1 rfl).ab) λ _ s3 _=> ?_
 have s3:=s3.nn
 refine .Z rfl<| .h<| .lo 0 s3 3 rfl<| .c 0 (xj _ _ _ _ _ (s3.ah 0 rfl) (s3.ah 1 rfl) (eU _) (xh hbe) (CE hbe) (xi hbe)) rfl λ r2 _ h2=> ?_
 have s4:=s3.az h2
 refine .Z rfl<| .aC rfl rfl ?_
 exact s4.pk [4]
theorem Bb (v:Nat) (w:World) (h0:0<v) (hv:v<2^64):
  CallsV prog 205 [(.int .u64 v)] w λ r w'=>r= .int .i64 ((Lib.bitLen v-1:Nat):Int)/\Sat w [] w':=by
 have h64:=bitLen_le64 v
 have hs0:=Sat.start w
 refine ai func205 rfl rfl ?_
 refine .Z rfl<| .Z rfl<| .seq<| .block<| .lq [2] rfl (α:=Nat×Nat) (λ (k,u)=>[(0,(.int .u64 u)),(3,(.int .i64 k))]) (λ (k,u) w'=>Sat w [] w'/\(0<u)/\(u<2^64)/\(Lib.bitLen u+k=Lib.bitLen v)) (λ (k,u)=>u) (0,v) ⟨hs0,h0,hv,rfl⟩ ?_
 rintro ⟨k,u⟩ w1 ⟨s1,hu0,hu,hb⟩
 refine .seq<| .Z rfl<| .ae rfl (λ c1=> ?_) λ c1=> ?_
 ·refine .skip<| .block<| .h<| .a 1 rfl (.Oi (b:=2) rfl rfl rfl (by omega) (by (try simp only [IntKind.bits]);omega))<| .Z rfl<| .U rfl ?_
  exact aT (k+1,(u/2)) ⟨s1,by omega,by omega,by have h9:=bitLen_half hu hu0;omega⟩
 refine .ao<| .Z rfl<| .aC rfl rfl ?_
 have h1:u=1:=by omega
 subst h1
 exact ⟨If (λ q:Nat=>Value.int .i64 (q:Int)) (by rw [JO] at hb;omega),s1.pk []⟩
theorem EL (v:Nat) (w:World) (h0:0<v) (hv:v<2^64):
  CallsV prog 147 [(.agg #[(.int .i64 (2:Nat)),(.int .u64 v),(.int .i64 (0:Nat))])] w λ r w'=>∃ v',r= .tuple #[v',.bool true]/\Sat w [cL v' 4 jb (gH v)] w':=by
 have h64:=bitLen_le64 v
 have hbp:=mq h0
 have hs0:=Sat.start w
 refine ai func147 rfl rfl ?_
 refine .h<| .bx 0 hs0 rfl λ b1 _ s1 _ _=> .Z rfl<| .seq<| .h<| .ld 1 s1 0 rfl<| .nil<| .block<| .Z rfl<| .aj rfl (rfl)<| .Z rfl<| .aj rfl (rfl)<| .skip<| .seq<| .h<| .ld 1 s1 0 rfl<| .Z rfl<| .aj rfl (IN (by omega))<| .skip<| .h<| .ld 1 s1 0 rfl<| .cp 0 s1 (Bb (v) _ (h0) (hv)) rfl λ _ s2=> .Z rfl<| .seq<| .h<| .ld 1 s2 0 rfl<| .Z rfl<| .ea rfl (rfl)<| .seq<| .dk [0] s2 rfl (pl [0,2,3,4,5] (.two 1 6 (pl [1006,1007,8,9] .fin) (pl [1001,1007,8,9] .fin))) λ s3 S1=> .ld 2 S1 0 rfl<| .z 2 S1 rfl<| .two rfl rfl rfl rfl rfl rfl (OpE.cP (jb) (false) nZ rfl s3 rfl rfl (by omega) (by omega) (by omega) λ v1 _ s4 _=> ?_) (OpE.call Mz rfl ((mQ (v) (((Lib.bitLen v-1)+1)) _ (hv) (by omega)).mono λ r2 _ h2=> ?_))
 ·have s4:=s4.nn
  have S2:=s4.pk [0]
  refine ⟨S2,?_⟩
  refine .c 0 S2 (mQ (v) (((Lib.bitLen v-1)+1)) _ (hv) (by omega)) rfl λ r3 _ h3=> ?_
  have s5:=s4.az h3
  have S3:=s5.pk [0]
  refine ⟨S3,?_⟩
  refine .f rfl (.aw 1 nZ s5 rfl rfl rfl underlying183 (s5.ah 2 rfl) (by simp only [R6,aF];omega) (by simp only [R6,aF];omega) λ v2 _ s6 _=> ?_)
  have S4:=s6.pk [0]
  refine ⟨S4,?_⟩
  refine .Z S4 rfl<| .cj rfl rfl rfl ?_
  have s8:=(s6.pk [1]).aZ 0 rfl (show List.replicate ((Lib.bitLen v-1)) false++aX v ((Lib.bitLen v-1)+1)=gH v from by rw [uB,show Lib.bitLen v-1+1=Lib.bitLen v by omega]<;>rfl)
  exact ⟨_,rfl,s8⟩
 have p2:=h2
 have s9:=(s3.az p2).nn
 have S5:=s9.pk [0]
 refine ⟨S5,?_⟩
 refine .f rfl (.cP (jb) (false) nZ rfl s9 rfl rfl (by omega) (by omega) (by omega) λ v3 _ s10 _=> ?_)
 have S6:=s10.pk [0]
 refine ⟨S6,?_⟩
 refine .f rfl (.aw 2 nZ s10 rfl rfl rfl underlying183 (s10.ah 1 rfl) (by simp only [R6,aF];omega) (by simp only [R6,aF];omega) λ v_4 _ s11 _=> ?_)
 have S7:=s11.pk [0]
 refine ⟨S7,?_⟩
 refine .Z S7 rfl<| .cj rfl rfl rfl ?_
 have s13:=(s11.pk [2]).aZ 0 rfl (show List.replicate ((Lib.bitLen v-1)) false++aX v ((Lib.bitLen v-1)+1)=gH v from by rw [uB,show Lib.bitLen v-1+1=Lib.bitLen v by omega]<;>rfl)
 exact ⟨_,rfl,s13⟩
theorem EM (v:Nat) (w:World) (h0:0<v) (hv:v<2^64):
  CallsV prog 147 [(.agg #[(.int .i64 (3:Nat)),(.int .u64 v),(.int .i64 (0:Nat))])] w λ r w'=>∃ v',r= .tuple #[v',.bool true]/\Sat w [cL v' 4 jb (fe v)] w':=by
 have h64:=bitLen_le64 v
 have hbp:=mq h0
 have h642:=bitLen_le64 (Lib.bitLen v-1+1)
 have hs0:=Sat.start w
 refine ai func147 rfl rfl ?_
 refine .h<| .bx 0 hs0 rfl λ b1 _ s1 _ _=> .Z rfl<| .seq<| .h<| .ld 1 s1 0 rfl<| .nil<| .block<| .Z rfl<| .aj rfl (rfl)<| .Z rfl<| .aj rfl (rfl)<| .skip<| .seq<| .h<| .ld 1 s1 0 rfl<| .Z rfl<| .aj rfl (IN (by omega))<| .skip<| .h<| .ld 1 s1 0 rfl<| .cp 0 s1 (Bb (v) _ (h0) (hv)) rfl λ _ s2=> .Z rfl<| .seq<| .h<| .ld 1 s2 0 rfl<| .Z rfl<| .aj rfl (rfl)<| .skip<| .h<| .a 3 rfl (.build KX rfl ⟨rfl,rfl,trivial⟩ rfl)<| .c 0 (EL (((Lib.bitLen v-1)+1)) _ (by omega) (by omega)) rfl λ r2 _ h_2=> ?_
 obtain ⟨wb1,rfl,p2⟩:=h_2
 have s3:=(s2.az p2).nn
 refine .Z rfl<| .h<| .ld 2 s3 0 rfl<| .c 1 (mQ (v) ((Lib.bitLen v-1)) _ (hv) (by omega)) rfl λ r3 _ h3=> ?_
 have s4:=s3.az h3
 refine .ap 0 s4 1 (s4.ah 2 rfl) rfl (h1:=by simp only [kc,aF];omega) (h2:=by simp only [kc,aF];omega) λ v1 _ s5 _=> .Z rfl<| .cj rfl rfl rfl ?_
 have s7:=(s5.pk [1]).aZ 0 rfl (show gH (((Lib.bitLen v-1)+1))++aX v (Lib.bitLen v-1)=fe v from by rw [show Lib.bitLen v-1+1=Lib.bitLen v by omega]<;>rfl)
 exact ⟨_,rfl,s7⟩
theorem CX (v:Value) (l:List Nat) (w:World) (hv:RdL w v (aa .i64) l) (ho:OkP l):
  CallsV prog 94 [v] w λ r w'=>Sat w [cL r 5 (aa .u8) (aM (mH l))] w':=by
 have hll:=ho.len
 have hgl:=jc l 0 ho.lt
 have hu1:=aD l.length
 have hu2:=aD (bY 0 l).length
 have hpk:=bc (bY 0 l)
 have hs0:=Sat.start w
 refine ai func94 rfl rfl ?_
 refine .Z rfl<| .Z rfl<| .Z rfl<| .Z rfl<| .seq<| .h<| .ln 1 (hv.ext hs0.ext) rfl<| .Z rfl<| .block ?_
 have s1:=hs0.aA 4 (jb)
 have s2:=s1.aA 3 (aa .i64)
 have s3:=s2.aZ 0 rfl (show []=bY 0 (l.take 0) from rfl)
 have s4:=s3.aZ 1 rfl (show []=DT l 0 from rfl)
 refine .lq [0,2,12,13] rfl (α:=Nat×Value×Value×Nat) (λ (k,bv,sv,b)=>[(3,bv),(4,sv),(5,(.int .i64 ((((b:Nat):Int)-1)))),(14,(.int .i64 k))]) (λ (k,bv,sv,b) w'=>Sat w [cL bv 4 (jb) (bY 0 (l.take k)),cL sv 3 (aa .i64) (DT l k)] w'/\(k<=l.length)/\(b=vK l k)) (λ (k,bv,sv,b)=>l.length-k) (0,(.slice none 0 0),(.slice none 0 0),0) ⟨s4,KD _,rfl⟩ ?_
 rintro ⟨k,bv,sv,b⟩ w1 ⟨s5,hk,hbf⟩
 refine .Z rfl<| .seq<| .ae rfl (λ c1=> ?_) λ c1=> ?_
 ·refine .skip<| .seq<| .block<| .seq ?_
  obtain ⟨x,hx⟩:∃ x,(l)[k]? =some x:=⟨_,py c1⟩
  have hxl:=ho.lt x (a7 hx)
  have hbx:=vL ho hx
  have hgk:=jc (l.take k) 0 (λ p hp=>ho.lt p (Q8 hp))
  have htk:=Ty k l
  refine .region<| .ix 0 (hv.ext s5.ext) rfl<| .le 0 (hv.ext s5.ext) hx rfl<| .Z rfl<| .h<| .ln 2 (s5.ah 0 rfl) rfl<| .f rfl (.bU (aa .i64) ((bY 0 (l.take k)).length) aQ rfl s5 rfl λ v1 _ s6 _=> ?_)
  have s6:=s6.nn
  refine .ap 0 s6 1 (s6.ah 2 rfl) rfl (h1:=by simp only [qo,KM];omega) (h2:=by simp only [qo,KM];omega) λ v2 _ s7 _=> ?_
  refine .Z rfl<| .h<| .a 2 rfl (.lk rfl rfl (by omega) (by omega))<| .a 1 rfl (.build KX rfl ⟨rfl,rfl,trivial⟩ rfl)<| .c 0 (EM ((x+1-b)) _ (by omega) (by omega)) rfl λ r1 _ h_1=> ?_
  obtain ⟨wb1,rfl,p1⟩:=h_1
  have s8:=(s7.pk [0,1]).az p1
  refine .Z rfl<| .h<| .ap 2 s8 0 (s8.ah 2 rfl) rfl (h1:=by have h9:=nE (x+1-b);have h8:=bitLen_le64 (x+1-b);have h7:=bitLen_le64 (Lib.bitLen (x+1-b));omega) (h2:=by have h9:=nE (x+1-b);have h8:=bitLen_le64 (x+1-b);have h7:=bitLen_le64 (Lib.bitLen (x+1-b));omega) λ v3 _ s9 _=> .Z rfl<| .U rfl<| .U rfl ?_
  have s10:=s9.aZ 0 rfl (show bY 0 (l.take k)++fe ((x+1-b))=bY 0 (l.take (k+1)) from by rw [hbf];exact JM hx)
  have s11:=s10.aZ 1 rfl (show DT l k++[(bY 0 (l.take k)).length]=DT l (k+1) from H7 l k)
  exact ⟨(k+1,v3,v2,x+1),⟨rfl,rfl,If some (If (Value.int .i64) (by omega)),rfl,rfl,rfl,rfl,rfl,trivial⟩,⟨s11.pk [0,1],by omega,(kd hx).symm⟩,by dsimp only;omega⟩
 refine .ao<| .seq ?_
 have s13:=s5.aZ 0 rfl (show bY 0 (l.take k)=bY 0 l from by rw [PV (by omega)])
 have s14:=s13.aZ 1 rfl (show DT l k=DT l l.length from by rw [show k=l.length by omega])
 refine .region<| .ln 1 (hv.ext s14.ext) rfl<| .c 1 (cT (l.length) _ (by omega)) rfl λ r2 _ h_2=> ?_
 have s15:=(s14.az h_2).nn
 refine .ln 1 (s15.ah 0 rfl) rfl<| .c 1 (cT ((bY 0 l).length) _ (by omega)) rfl λ r3 _ h3=> ?_
 have s16:=s15.az h3
 refine .ap 0 s16 2 (s16.ah 3 rfl) rfl (h1:=by (try simp only [sp]);omega) (h2:=by (try simp only [sp]);omega) λ v_4 _ s17 _=> .Z rfl<| .h<| .c 2 (qH _ (bY 0 l) _ (s17.ah 0 rfl) (by omega)) rfl λ r4 _ h4=> ?_
 have s18:=s17.az h4
 refine .ap 0 s18 2 (s18.ah 4 rfl) rfl (h1:=by (try simp only [sp]);omega) (h2:=by (try simp only [sp]);omega) λ v5 _ s19 _=> ?_
 have s19d:Sat w [_,_,cL v5 5 (aa .u8) (uv (l.length)++uv ((bY 0 l).length)++aH (bY 0 l)),_,cL r4 5 (aa .u8) (aH (bY 0 l))] _:=s19
 refine .Z rfl<| .seq<| .Z rfl<| .block ?_
 have s21:=(s19d.pk [1,2]).aZ 1 rfl (show uv (l.length)++uv ((bY 0 l).length)++aH (bY 0 l)=uv l.length++uv (bY 0 l).length++aH (bY 0 l)++qg (ga l l.length) 1 from (QO _).symm)
 refine .lq [0,2,4,5,12,13,14] rfl (α:=Nat×Value) (λ (q,ov)=>[(10,ov),(11,(.int .i64 ((16*q):Nat)))]) (λ (q,ov) w'=>Sat w (s21.U [(1,cL ov 5 (aa .u8) (uv l.length++uv (bY 0 l).length++aH (bY 0 l)++qg (ga l l.length) q))]) w'/\(1<=q)/\(16*q<=l.length+15\/q=1)/\((uv l.length++uv (bY 0 l).length++aH (bY 0 l)++qg (ga l l.length) q).length<=200000+20*q)) (λ (q,ov)=>l.length+16-16*q) (1,v5) ⟨s21,KB _,.inr rfl,by (try simp only [sp]);show _+([]:List Nat).length<=_;rw [KY];omega⟩ ?_
 rintro ⟨q,ov⟩ w11 ⟨s22,hq1,hq2,hob⟩
 refine .seq<| .h<| .ln 2 (hv.ext s22.ext) rfl<| .Z rfl<| .ae rfl (λ c2=> ?_) λ c2=> ?_
 ·refine .skip<| .seq<| .block ?_
  obtain ⟨x,hx⟩:∃ x,l[16*q]? =some x:=⟨_,py (by omega)⟩
  obtain ⟨y,hy⟩:∃ y,l[16*q-16]? =some y:=⟨_,py (by omega)⟩
  have hxl:=ho.lt x (a7 hx)
  have hxy:y<=x:=ho.le hy hx (by omega)
  have hgm:=JN l (16*q-16) (16*q) (by omega)
  have hg2:=jc (l.take (16*q)) 0 (λ p hp=>ho.lt p (Q8 hp))
  have htk:=Ty (16*q) l
  have hs1:=C2 (l:=l) (k:=l.length) (i:=16*q) (by omega)
  have hs2:=C2 (l:=l) (k:=l.length) (i:=16*q-16) (by omega)
  have hob2:=hob
  simp only [sp] at hob2
  have hu1:=aD (x-y)
  have hu2:=aD ((bY 0 (l.take (16*q))).length-(bY 0 (l.take (16*q-16))).length)
  have hshp1:=(s22.ah (E:=aa .u8) 1 rfl).iH (by decide)
  refine .dk [0] s22 rfl (pl [0,1,2,3,4,5,6,7,8,9,10,11,14,15,16,17,18,19,20,21,22,23,24,1012,1013,1025,1026,27] .fin) λ s23 S1=> .ix 3 S1 (hv.ext ·.ext) rfl<| .le 0 S1 (hv.ext ·.ext) hx rfl<| .ix 3 S1 (hv.ext ·.ext) rfl<| .le 0 S1 (hv.ext ·.ext) hy rfl<| .ix 4 S1 (·.ah 0 rfl) rfl (hj:=by rw [qo];omega)<| .le 0 S1 (·.ah 0 rfl) hs1 rfl<| .ix 3 S1 (·.ah 0 rfl) rfl (hj:=by rw [qo];omega)<| .le 0 S1 (·.ah 0 rfl) hs2 rfl<| .c 2 S1 (cT ((x-y)) _ (by omega)) rfl λ r5 _ h5=> ?_
  have s24:=s23.az h5
  have S2:=s24.pk [0]
  refine ⟨S2,?_⟩
  refine .f rfl (.aw 1 ch s24 rfl rfl rfl underlying45 (s24.ah 2 rfl) (by (try simp only [sp]);omega) (by (try simp only [sp]);omega) λ v6 _ s25 _=> ?_)
  have S3:=s25.pk [0]
  refine ⟨S3,?_⟩
  refine .c 0 S3 (cT (((bY 0 (l.take (16*q))).length-(bY 0 (l.take (16*q-16))).length)) _ (by omega)) rfl λ r6 _ h6=> ?_
  have s26:=(s25.az h6).nn
  have S4:=s26.pk [0]
  refine ⟨S4,?_⟩
  refine .f rfl (.aw 1 ch s26 rfl rfl rfl underlying45 (s26.ah 3 rfl) (by (try simp only [sp]);omega) (by (try simp only [sp]);omega) λ v7 _ s27 _=> ?_)
  have S5:=s27.pk [0]
  refine ⟨S5,?_⟩
  refine .Z S5 rfl<| .U rfl ?_
  have s29:=(s27.pk [0,1]).aZ 1 rfl (show uv l.length++uv (bY 0 l).length++aH (bY 0 l)++qg (ga l l.length) q++uv ((x-y))++uv (((bY 0 (l.take (16*q))).length-(bY 0 (l.take (16*q-16))).length))=uv l.length++uv (bY 0 l).length++aH (bY 0 l)++qg (ga l l.length) (q+1) from by rw [<-C3 (by omega) hq1 hx hy];simp only [LW])
  exact aT (q+1,v7) ⟨s29,by omega,.inl (by omega),by rw [<-C3 (by omega) hq1 hx hy];simp only [sp] at hob⊢;omega⟩
 refine .ao<| .seq ?_
 have s30:=s22.aZ 1 rfl (show uv l.length++uv (bY 0 l).length++aH (bY 0 l)++qg (ga l l.length) q=mH l from by rw [sd_end hq1 (by omega) hq2]<;>rfl)
 refine .region<| .c 1 (jQ _ (mH l) _ (s30.ah 1 rfl) (iA l) (by have h9:=je ho;omega)) rfl λ r7 _ h_7=> ?_
 have s31:=(s30.az h_7).nn
 refine .Z rfl<| .aC rfl rfl ?_
 exact s31.pk [2]
theorem EN (v:Value) (l:List Nat) (w:World) (hv:RdL w v (aa .i64) l) (hl:OkN l):CallsV prog 93 [v] w λ r w'=>Sat w [cL r 5 (aa .u8) (bW l)] w':=by
 obtain ⟨s,rfl,_⟩:=hv.sv
 exact zA s l w hv hl
set_option maxHeartbeats 2000000 in
theorem EO (v:Value) (acc:List Nat) (c:Co) (n a:Nat) (at_:ByteArray×Bool) (w:World) (hv:RdL w v (aa .u8) acc) (hr:RdC w c) (ho:OkC n c) (hn:n<=3) (hat:c.at_[a]? =some at_) (ha:acc.length<=1000000000):
  CallsV prog 37 [v,(.agg #[c.va,c.vt,c.vx,c.vr,c.vn,c.vh,c.vl]),(.int .i64 a)] w λ r w'=>Sat w [cL r 5 (aa .u8) (acc++jJ lexB bW at_ (eK c a))] w':=by
 have htk:=ho.ntk
 have hal:=bQ hat
 have hok:=pZ ho hn hal
 obtain ⟨us,hu0⟩:∃ us,us=eK c a:=⟨_,rfl⟩
 rw [<-hu0] at hok
 obtain ⟨hbe,hus⟩:=hok
 have hul:us.length=c.tk.length:=by rw [hu0,k9]
 have hwl:=bI us
 obtain ⟨l,hl0⟩:∃ l,l=ek us:=⟨_,rfl⟩
 have hl:OkN l:=by rw [hl0];exact ve hus.1
 have hll:l.length=us.length:=by rw [hl0];unfold ek;rw [No]
 have hxl:=mO hus
 have htl:(bW l).length<=2000004:=by rw [hl0];exact mP hus.1
 have hnsz:=bk (ho.at_.1 a at_ hat).1
 have hnt:=bK at_.1
 have hu8:=ho.at_.2
 have hs0:=Sat.start w
 refine ai func37 rfl rfl ?_
 refine .h<| .bx 0 hs0 rfl λ b1 _ s1 _ _=> .Z rfl<| .h<| .ld 2 s1 0 rfl<| .ix 1 (hr.a.ext s1.ext) rfl<| .fl 0 (hr.a.ext s1.ext) rfl<| .lf 0 (hr.a.ext s1.ext) hat rfl<| .c 0 (fo _ (acc) at_.1 _ (hv.ext s1.ext) (by omega)) rfl λ r1 _ h_1=> ?_
 have s2:=s1.az h_1
 refine .Z rfl<| .jn [1,2,4,6] rfl (λ K L' w'=>∃ (sn:Nat) (jv:Value),Weak ([(0,jv)]++K) L'/\Sat w (s2.U [(1,cL jv 5 (aa .u8) (acc++cr at_.1++uv sn))]) w'/\(sn=if at_.2 then 1 else 0)) ?_ ?_
 ·refine .h<| .ld 1 s2 0 rfl<| .ix 1 (hr.a.ext s2.ext) rfl<| .fl 0 (hr.a.ext s2.ext) rfl<| .lf 0 (hr.a.ext s2.ext) hat rfl<| .nil<| .cond rfl (λ c1=> ?_) (λ c1=> ?_)
  ·refine .region<| .c 1 (eh _ (acc++cr at_.1) (1) _ (s2.ah 1 rfl) (by omega) (by (try simp only [sp]);omega)) rfl λ r2 _ h_2=> ?_
   have s3:=(s2.az h_2).nn
   refine .Z rfl ?_
   exact ⟨1,r2,(wk rfl),s3.pk [0,2],by simp [c1]⟩
  refine .region<| .c 1 (eh _ (acc++cr at_.1) (0) _ (s2.ah 1 rfl) (by omega) (by (try simp only [sp]);omega)) rfl λ r3 _ h_3=> ?_
  have s5:=(s2.az h_3).nn
  refine .Z rfl ?_
  exact ⟨0,r3,(wk rfl),s5.pk [0,2],by simp [c1]⟩
 rintro L' w5 ⟨sn,jv,hw1,s7,hsn⟩
 refine .weaken _ hw1<| .Z rfl<| .seq<| .h<| .ld 1 s7 0 rfl<| .ln 0 (hr.t.ext s7.ext) rfl<| .Z rfl<| .block ?_
 have s8:=s7.aA 9 (ax)
 have s9:=s8.aA 9 (ax)
 have s10:=s9.aZ 3 rfl (show []=a8 [] from rfl)
 refine .lq [0,1,2,4,6,39,40] rfl (α:=Nat×Value×List ByteArray×Value) (λ (k,vv,vals,wv)=>[(7,vv),(8,wv),(41,(.int .i64 k))]) (λ (k,vv,vals,wv) w'=>Sat w (s10.U [(2,cL vv 9 (ax) (vals)),(3,cL wv 9 (ax) (a8 vals))]) w'/\(k<=c.tk.length)/\(vals=(c.tk.take k).map (λ t=>t.ns.getD a ByteArray.empty))/\(vals.length<=k)) (λ (k,vv,vals,wv)=>c.tk.length-k) (0,(.slice none 0 0),[],(.slice none 0 0)) ⟨s10,KD _,rfl,KD _⟩ ?_
 rintro ⟨k,vv,vals,wv⟩ w6 ⟨s11,hk,hvals,hvl⟩
 refine .Z rfl<| .seq<| .ae rfl (λ c2=> ?_) λ c2=> ?_
 ·refine .skip<| .seq<| .block<| .seq ?_
  obtain ⟨x,hx⟩:∃ x,(c.tk)[k]? =some x:=⟨_,py c2⟩
  have htl9:=(ho.tk x (a7 hx)).1
  have hwv:=bI vals
  obtain ⟨y,hy⟩:∃ y,x.ns[a]? =some y:=⟨_,py (by omega)⟩
  refine .region<| .ix 0 (hr.t.ext s11.ext) rfl<| .le 0 (hr.t.ext s11.ext) hx rfl<| .Z rfl<| .h<| .ix 3 ((hr.tr _ (a7 hx)).ext s11.ext) rfl<| .le 0 ((hr.tr _ (a7 hx)).ext s11.ext) hy rfl<| .f rfl (.bU (ax) y bu rfl s11 rfl λ v1 _ s12 _=> ?_)
  have s12:=s12.nn
  refine .ap 0 s12 2 (s12.ah 4 rfl) rfl (h1:=by simp only [KM];omega) (h2:=by simp only [KM];omega) λ v2 _ s13 _=> ?_
  have s13:=s13.pk [0,1,2,3]
  refine .Z rfl<| .h<| .ln 1 (s13.ah 3 rfl) rfl<| .Z rfl<| .seq<| .block<| .lq [0,1,2,4,6,7,8,10,39,40,41] rfl (α:=Nat) (λ j=>[(11,(.int .i64 j))]) (λ j w'=>Sat w s13.L w'/\(j<=(a8 vals).length)/\(∀ (i:Nat) z,j<=i->(a8 vals)[i]? =some z->SLt y z)) (λ j=>j) (a8 vals).length ⟨s13,KB _,λ i z hi hz=>absurd (AT.1 hz).1 (by omega)⟩ ?_
  rintro j w9 ⟨s14,hj,hg⟩
  refine .seq<| .seq<| .wI (λ L' w'=>Weak [(0,jv),(1,(.agg #[c.va,c.vt,c.vx,c.vr,c.vn,c.vh,c.vl])),(2,(.int .i64 a)),(4,(.pointer (some ⟨b1,0,none⟩))),(6,(.slice none 0 0)),(7,v2),(8,wv),(10,x.sv.val),(11,(.int .i64 j)),(39,c.vt),(40,(.int .i64 c.tk.length)),(41,(.int .i64 k)),(67,(.bool (M5 (a8 vals) y j)))] L'/\Sat w [aq b1 30 [c.va,c.vt,c.vx,c.vr,c.vn,c.vh,c.vl],cL jv 5 (aa .u8) (acc++cr at_.1++uv sn),cL v2 9 (ax) (vals++[y]),cL wv 9 (ax) (a8 vals)] w') ?_ ?_
  ·rcases SN (0<j) with hj0|hj0
   ·obtain ⟨z,hz⟩:∃ z,(a8 vals)[j-1]? =some z:=⟨_,py (by omega)⟩
    refine .dk [0,1,2,3] s14 rfl (pl [0,1,2,3,4,5,6,7,8,9,10,11,12,13] .fin) λ s15 S1=> .z 3 S1 rfl<| .Gt 56 rfl (PM hj0)<| .ix 2 S1 ((hr.tr _ (a7 hx)).ext ·.ext) rfl<| .le 0 S1 ((hr.tr _ (a7 hx)).ext ·.ext) hy rfl<| .ix 3 S1 (·.ah 3 rfl) rfl<| .le 0 S1 (·.ah 3 rfl) hz rfl<| .a 0 S1 rfl (λ _ s=> .wO rfl rfl)<| .Z S1 rfl ?_
    exact ⟨⟨rfl,rfl,rfl,rfl,rfl,rfl,rfl,rfl,rfl,rfl,rfl,rfl,If some (If Value.bool (wi hj0 hz).symm),trivial⟩,s15⟩
   refine .dk [0,1,2,3] s14 rfl (pl [0,1,2,3,4,5,6,7,8,9,10,11,12,13] .fin) λ s16 S_2=> .z 3 S_2 rfl<| .Gf 56 rfl (IN hj0)<| .Z S_2 rfl ?_
   exact ⟨⟨rfl,rfl,rfl,rfl,rfl,rfl,rfl,rfl,rfl,rfl,rfl,rfl,If some (If Value.bool (H4 hj0).symm),trivial⟩,s16⟩
  rintro L' w10 ⟨hw2,s17⟩
  refine .weaken _ hw2<| .cond rfl (λ c3=> ?_) (λ c3=> ?_)
  ·refine .skip<| .block ?_
   have hj0:=H5 c3
   refine .U rfl ?_
   exact aT (j-1) ⟨s17,by omega,JL c3 hg⟩
  refine .ao<| .seq<| .wI (λ L' w'=>Weak [(0,jv),(1,(.agg #[c.va,c.vt,c.vx,c.vr,c.vn,c.vh,c.vl])),(2,(.int .i64 a)),(4,(.pointer (some ⟨b1,0,none⟩))),(6,(.slice none 0 0)),(7,v2),(8,wv),(10,x.sv.val),(11,(.int .i64 j)),(39,c.vt),(40,(.int .i64 c.tk.length)),(41,(.int .i64 k)),(83,(.bool (N6 (a8 vals) y j)))] L'/\Sat w [aq b1 30 [c.va,c.vt,c.vx,c.vr,c.vn,c.vh,c.vl],cL jv 5 (aa .u8) (acc++cr at_.1++uv sn),cL v2 9 (ax) (vals++[y]),cL wv 9 (ax) (a8 vals)] w') ?_ ?_
  ·rcases SN (0<j) with hj0|hj0
   ·obtain ⟨z,hz⟩:∃ z,(a8 vals)[j-1]? =some z:=⟨_,py (by omega)⟩
    refine .dk [0,1,2,3] s17 rfl (pl [0,1,2,3,4,5,6,7,8,9,10,11,12,13] .fin) λ s18 S3=> .z 3 S3 rfl<| .Gf 72 rfl (IN (by omega))<| .ix 3 S3 (·.ah 3 rfl) rfl<| .le 0 S3 (·.ah 3 rfl) hz rfl<| .ix 2 S3 ((hr.tr _ (a7 hx)).ext ·.ext) rfl<| .le 0 S3 ((hr.tr _ (a7 hx)).ext ·.ext) hy rfl<| .a 0 S3 rfl (λ _ s=> .ed rfl rfl)<| .Z S3 rfl ?_
    exact ⟨⟨rfl,rfl,rfl,rfl,rfl,rfl,rfl,rfl,rfl,rfl,rfl,rfl,If some (If Value.bool (wj hj0 hz).symm),trivial⟩,s18⟩
   refine .dk [0,1,2,3] s17 rfl (pl [0,1,2,3,4,5,6,7,8,9,10,11,12,13] .fin) λ s19 S4=> .z 3 S4 rfl<| .Gt 72 rfl (PM (by omega))<| .Z S4 rfl ?_
   exact ⟨⟨rfl,rfl,rfl,rfl,rfl,rfl,rfl,rfl,rfl,rfl,rfl,rfl,If some (If Value.bool (yN hj0).symm),trivial⟩,s19⟩
  rintro L' w11 ⟨hw3,s20⟩
  refine .weaken _ hw3<| .cond rfl (λ c4=> ?_) (λ c4=> ?_)
  ·refine .dk [0,1,2,3] s20 rfl (pl [1,2,3,5,6,7,8,11,12,13] (.two 0 9 (.two 4 9 (pl [1009,1010,1014,15] .fin) (pl [1004,1010,1014,15] .fin)) (pl [1000,1004,1010,1014,15] .fin))) λ s21 S5=> .z 2 S5 rfl<| .e rfl (λ _ s=> .aV (E:=ax) (a:=0) (c:=j) bu rfl (s.ah 3 rfl) rfl ⟨_,rfl⟩ (KD _) (hj)) S5<| .ix 2 S5 ((hr.tr _ (a7 hx)).ext ·.ext) rfl<| .le 0 S5 ((hr.tr _ (a7 hx)).ext ·.ext) hy rfl<| .z 2 S5 rfl<| .e rfl (λ _ s=> .aV (E:=ax) (a:=j) (c:=(a8 vals).length) bu rfl (s.ah 3 rfl) ⟨_,rfl⟩ rfl (hj) (KB _)) S5<| .two rfl rfl rfl rfl rfl rfl (OpE.tg (ax) bu s21 λ v3 _ s22 _=> ?_) (OpE.bU (ax) y bu rfl s21 rfl λ v_4 _ s23 _=> ?_)
   ·have S6:=s22.pk [0,1,2,3]
    refine ⟨S6,?_⟩
    refine .two rfl rfl rfl rfl rfl rfl (OpE.aw 4 bu s22 rfl rfl rfl underlying28 (((s22.ah 3 rfl)).sub (a:=0) (b:=j) (KD _) (hj)) (by simp only [sp,KV,PK,KP,KY];omega) (by simp only [sp,KV,PK,KP,KY];omega) λ v5 _ s24 _=> ?_) (OpE.bU (ax) y bu rfl s22 rfl λ v6 _ s25 _=> ?_)
    ·skip
     have S7:=s24.pk [0,1,2,3]
     refine ⟨S7,?_⟩
     refine .f rfl (.bU (ax) y bu rfl s24 rfl λ v7 _ s26 _=> ?_)
     have S8:=s26.pk [0,1,2,3]
     refine ⟨S8,?_⟩
     refine .f rfl (.aw 4 bu s26 rfl rfl rfl underlying28 (s26.ah 5 rfl) (by simp only [sp,KV,PK,KP,KY];omega) (by simp only [sp,KV,PK,KP,KY];omega) λ v8 _ s27 _=> ?_)
     have s27:=s27.pk [0,1,2,3,4]
     have S9:=s27.pk [0,1,2,3]
     refine ⟨S9,?_⟩
     refine .f rfl (.aw 4 bu s27 rfl rfl rfl underlying28 (((s27.ah 3 rfl)).sub (a:=j) (b:=(a8 vals).length) (hj) (KB _)) (by simp only [sp,KV,PK,KP,KY];omega) (by simp only [sp,KV,PK,KP,KY];omega) λ v9 _ s28 _=> ?_)
     have S10:=s28.pk [0,1,2,3]
     refine ⟨S10,?_⟩
     refine .Z S10 rfl<| .U rfl ?_
     have s29:=s28.aZ 4 rfl (show ((a8 vals).take j).drop 0++[y]++((a8 vals).take ((a8 vals).length)).drop j=a8 (vals++[y]) from by rw [oS hj hg c3 c4];simp)
     exact aT (k+1,v2,vals++[y],v9) ⟨s29.pk [0,1,2,4],by omega,by rw [iO hx hy,hvals],by rw [sp];simp only [KM];omega⟩
    have S11:=s25.pk [0,1,2,3]
    refine ⟨S11,?_⟩
    refine .f rfl (.aw 4 bu s25 rfl rfl rfl underlying28 (((s25.ah 3 rfl)).sub (a:=0) (b:=j) (KD _) (hj)) (by simp only [sp,KV,PK,KP,KY];omega) (by simp only [sp,KV,PK,KP,KY];omega) λ v10 _ s31 _=> ?_)
    have s31d:Sat w [aq b1 30 [c.va,c.vt,c.vx,c.vr,c.vn,c.vh,c.vl],cL jv 5 (aa .u8) (acc++cr at_.1++uv sn),cL v2 9 (ax) (vals++[y]),cL wv 9 (ax) (a8 vals),cL v10 9 (ax) (((a8 vals).take j).drop 0),cL v6 9 (ax) ([y])] _:=s31
    have S12:=s31d.pk [0,1,2,3]
    refine ⟨S12,?_⟩
    refine .f rfl (.aw 4 bu s31d rfl rfl rfl underlying28 (s31d.ah 5 rfl) (by simp only [sp,KV,PK,KP,KY];omega) (by simp only [sp,KV,PK,KP,KY];omega) λ v11 _ s32 _=> ?_)
    have s32:=s32.pk [0,1,2,3,4]
    have S13:=s32.pk [0,1,2,3]
    refine ⟨S13,?_⟩
    refine .f rfl (.aw 4 bu s32 rfl rfl rfl underlying28 (((s32.ah 3 rfl)).sub (a:=j) (b:=(a8 vals).length) (hj) (KB _)) (by simp only [sp,KV,PK,KP,KY];omega) (by simp only [sp,KV,PK,KP,KY];omega) λ v12 _ s33 _=> ?_)
    have S14:=s33.pk [0,1,2,3]
    refine ⟨S14,?_⟩
    refine .Z S14 rfl<| .U rfl ?_
    have s34:=s33.aZ 4 rfl (show ((a8 vals).take j).drop 0++[y]++((a8 vals).take ((a8 vals).length)).drop j=a8 (vals++[y]) from by rw [oS hj hg c3 c4];simp)
    exact aT (k+1,v2,vals++[y],v12) ⟨s34.pk [0,1,2,4],by omega,by rw [iO hx hy,hvals],by rw [sp];simp only [KM];omega⟩
   have S15:=s23.pk [0,1,2,3]
   refine ⟨S15,?_⟩
   refine .f rfl (.tg (ax) bu s23 λ v13 _ s36 _=> ?_)
   have S16:=s36.pk [0,1,2,3]
   refine ⟨S16,?_⟩
   refine .f rfl (.aw 5 bu s36 rfl rfl rfl underlying28 (((s36.ah 3 rfl)).sub (a:=0) (b:=j) (KD _) (hj)) (by simp only [sp,KV,PK,KP,KY];omega) (by simp only [sp,KV,PK,KP,KY];omega) λ v14 _ s37 _=> ?_)
   have S17:=s37.pk [0,1,2,3]
   refine ⟨S17,?_⟩
   refine .f rfl (.aw 5 bu s37 rfl rfl rfl underlying28 (s37.ah 4 rfl) (by simp only [sp,KV,PK,KP,KY];omega) (by simp only [sp,KV,PK,KP,KY];omega) λ v15 _ s38 _=> ?_)
   have s38d:Sat w [_,_,_,_,_,cL v15 9 (ax) (((a8 vals).take j).drop 0++[y])] _:=s38
   have S18:=s38d.pk [0,1,2,3]
   refine ⟨S18,?_⟩
   refine .f rfl (.aw 5 bu s38d rfl rfl rfl underlying28 (((s38d.ah 3 rfl)).sub (a:=j) (b:=(a8 vals).length) (hj) (KB _)) (by simp only [sp,KV,PK,KP,KY];omega) (by simp only [sp,KV,PK,KP,KY];omega) λ v16 _ s39 _=> ?_)
   have S19:=s39.pk [0,1,2,3]
   refine ⟨S19,?_⟩
   refine .Z S19 rfl<| .U rfl ?_
   have s40:=s39.aZ 5 rfl (show ((a8 vals).take j).drop 0++[y]++((a8 vals).take ((a8 vals).length)).drop j=a8 (vals++[y]) from by rw [oS hj hg c3 c4];simp)
   exact aT (k+1,v2,vals++[y],v16) ⟨s40.pk [0,1,2,5],by omega,by rw [iO hx hy,hvals],by rw [sp];simp only [KM];omega⟩
  refine .skip<| .U rfl ?_
  have s42:=s20.aZ 3 rfl (show a8 vals=a8 (vals++[y]) from (DS hj hg c3 c4).symm)
  exact aT (k+1,v2,vals++[y],wv) ⟨s42.pk [0,1,2,3],by omega,by rw [iO hx hy,hvals],by rw [sp];simp only [KM];omega⟩
 refine .ao<| .seq ?_
 have hvu:vals=us:=by rw [hvals,PV (by omega),hu0]<;>rfl
 have s44:=s11.aZ 2 rfl (show vals=us from hvu)
 have s45:=s44.aZ 3 rfl (show a8 vals=a8 us from by rw [hvu])
 refine .U rfl<| .h<| .ln 1 (s45.ah 3 rfl) rfl<| .f rfl (.cP (ck Nat) ((⟨none,0,0⟩,[])) C8 rfl s45 rfl rfl (by omega) (by omega) (by omega) λ v17 _ s46 _=> ?_)
 have s46:=s46.nn
 refine .Z rfl<| .seq<| .h<| .ln 1 (s46.ah 2 rfl) rfl<| .Z rfl<| .block ?_
 have s47:=s46.aA 3 (aa .i64)
 have s48:=s47.aZ 5 rfl (show []=l.take 0 from rfl)
 have s49:=(s48.wG 3 (aa .i64) (a8 us).length).nn
 refine .lq [0,1,2,4,6,7,8,39,40,103,104] rfl (α:=Nat×Value×Value×List (SV×List Nat)) (λ (k,nv,pv,S)=>[(12,nv),(13,pv),(105,(.int .i64 k))]) (λ (k,nv,pv,S) w'=>Sat w (s49.U [(4,cL pv 22 (ck Nat) (S)),(5,cL nv 3 (aa .i64) (l.take k)),(6,bh 3 (aa .i64) (S))]) w'/\(k<=us.length)/\(S.length=(a8 us).length)/\(S.map Prod.snd=(List.range (a8 us).length).map (eo (l.take k)))) (λ (k,nv,pv,S)=>us.length-k) (0,(.slice none 0 0),v17,List.replicate (a8 us).length (⟨none,0,0⟩,[])) ⟨s49,KD _,by simp,by apply SP<;>simp [eo]⟩ ?_
 rintro ⟨k,nv,pv,S⟩ w27 ⟨s50,hk,hSl,hS⟩
 refine .Z rfl<| .seq<| .ae rfl (λ c5=> ?_) λ c5=> ?_
 ·refine .skip<| .seq<| .block<| .seq ?_
  obtain ⟨x,hx⟩:∃ x,(us)[k]? =some x:=⟨_,py c5⟩
  obtain ⟨m,hm0⟩:∃ m,m=bJ (a8 us) x:=⟨_,rfl⟩
  have hlm:l[k]? =some m:=by rw [hl0,hm0];unfold ek;rw [PX,hx]<;>rfl
  have hmw:m<(a8 us).length:=vM m (by rw [<-hl0];exact a7 hlm)
  refine .region<| .ix 1 (s50.ah 2 rfl) rfl<| .le 0 (s50.ah 2 rfl) hx rfl<| .Z rfl<| .h<| .ln 1 (s50.ah 3 rfl) rfl<| .Z rfl<| .block ?_
  have s51:=s50.aZ 5 rfl (show l.take k=lG l k 0 m from (yO l k m).symm)
  refine .lq [0,1,2,4,6,7,8,14,15,39,40,103,104,105,110,111] rfl (α:=Nat×Value×Value×List (SV×List Nat)) (λ (q,nv2,pv2,S2)=>[(12,nv2),(13,pv2),(112,(.int .i64 q))]) (λ (q,nv2,pv2,S2) w'=>Sat w (s51.U [(4,cL pv2 22 (ck Nat) (S2)),(5,cL nv2 3 (aa .i64) (lG l k q m)),(6,bh 3 (aa .i64) (S2))]) w'/\(q<=(a8 us).length)/\(S2.length=(a8 us).length)/\(S2.map Prod.snd=(List.range (a8 us).length).map (eo (lG l k q m)))) (λ (q,nv2,pv2,S2)=>(a8 us).length-q) (0,nv,pv,S) ⟨s51,KD _,hSl,by rw [yO];exact hS⟩ ?_
  rintro ⟨q,nv2,pv2,S2⟩ w28 ⟨s52,hq,hSl2,hS2⟩
  refine .Z rfl<| .seq<| .ae rfl (λ c6=> ?_) λ c6=> ?_
  ·refine .skip<| .seq<| .block<| .seq ?_
   obtain ⟨z,hz⟩:∃ z,(a8 us)[q]? =some z:=⟨_,py c6⟩
   refine .region<| .ix 1 (s52.ah 3 rfl) rfl<| .le 0 (s52.ah 3 rfl) hz rfl<| .Z rfl<| .h<| .a 2 rfl (.eF rfl rfl)<| .nil<| .ae rfl (λ c7=> ?_) λ c7=> ?_
   ·have hqm:q=m:=((wq hx hz).1 c7).trans hm0.symm
    obtain ⟨p,hp⟩:∃ p,S2[q]? =some p:=⟨_,py (by omega)⟩
    have hpl:p.2.length<=4096:=by rw [(qc hS2 hp).1];exact (kY q (by unfold lG;split<;>(rw [KV];omega))).len
    have hnl:(lG l k q m).length<=4096:=by unfold lG;split<;>(rw [KV];omega)
    have s53:=(s52.HA 6 rfl hp).nn
    have hshp1:=(s53.ah (E:=ck Nat) 4 rfl).iH (by decide)
    have hshp2:=(s53.ah (E:=aa .i64) 5 rfl).iH (by decide)
    have hshp3:=(s53.ah (E:=aa .i64) 7 rfl).iH (by decide)
    refine .iF [0,1,2,3,4,6] [0,1,2,3,5] s53 rfl rfl 15 (pl [0,1,2,3,6,7,8,9,10] (.two 4 11 (.two 5 11 (pl [1011,1012,13,14] (.bar 15 .fin)) (pl [1005,1012,13,14] (.bar 15 .fin))) (pl [1004,1005,1012,13,14] (.bar 15 .fin)))) mixed (by kernel_rfl) ?_
    have s54:=s53.drew
    have S20:=s54.pk [0,1,2,3,4,6]
    refine .ix 6 S20 (·.ah 4 rfl) rfl<| .le 0 S20 (·.ah 4 rfl) hp rfl<| .z 1 S20 rfl<| .two rfl rfl rfl rfl rfl rfl (OpE.bU (aa .i64) q aQ rfl s54 rfl λ v18 _ s55 _=> ?_) (OpE.bU (aa .i64) k aQ rfl s54 rfl λ v19 _ s56 _=> ?_)
    ·have s55:=s55.nn
     have S21:=s55.pk [0,1,2,3,4,6]
     refine ⟨S21,?_⟩
     refine .two rfl rfl rfl rfl rfl rfl (OpE.aw 5 aQ s55 rfl rfl rfl underlying22 (s55.ah 8 rfl) (by simp only [KM];omega) (by simp only [KM];omega) λ v20 _ s57 _=> ?_) (OpE.bU (aa .i64) k aQ rfl s55 rfl λ v21 _ s58 _=> ?_)
     ·have s57:=s57.pk [0,1,2,3,4,5,6,7]
      have S22:=s57.pk [0,1,2,3,4,6]
      refine ⟨S22,?_⟩
      refine .f rfl (.bU (aa .i64) k aQ rfl s57 rfl λ v22 _ s59 _=> ?_)
      have S23:=s59.pk [0,1,2,3,4,6]
      refine ⟨S23,?_⟩
      refine .f rfl (.aw 7 aQ s59 rfl rfl rfl underlying22 (s59.ah 8 rfl) (by simp only [KM];omega) (by simp only [KM];omega) λ v23 _ s60 _=> ?_)
      have s60:=s60.pk [0,1,2,3,4,5,6,7]
      obtain ⟨sv1,hsv1,hsv1n⟩:=(s60.ah 7 rfl).sv
      subst hsv1
      have S24:=s60.pk [0,1,2,3,4,6]
      refine ⟨S24,?_⟩
      refine .ix 1 S24 (·.ah 4 rfl) rfl<| .bar rfl rfl rfl (OpE.cH (a:=(sv1,p.2++[k])) 4 fR s60 rfl rfl rfl rfl (by omega) λ _ s61 _=> ?_)
      have S25:=s61.pk [0,1,2,3,6]
      refine ⟨S25,?_⟩
      refine .fin ?_
      have s63:=(Sat.Cf (A:=[aq b1 30 [c.va,c.vt,c.vx,c.vr,c.vn,c.vh,c.vl],cL jv 5 (aa .u8) (acc++cr at_.1++uv sn),cL vv 9 (ax) (us),cL wv 9 (ax) (a8 us),cL pv2 22 (ck Nat) (S2.set q (sv1,p.2++[k])),cL v20 3 (aa .i64) (lG l k q m++[q]),bh 3 (aa .i64) (S2.eraseIdx q)]) (s61.pk [0,1,2,3,4,5,6,7]) 6 rfl (by omega)).nn
      have s64:=s63.aZ 5 rfl (show lG l k q m++[q]=lG l k (q+1) m from wu hlm hqm)
      refine .U rfl ?_
      exact aT (q+1,v20,pv2,S2.set q (sv1,p.2++[k])) ⟨s64,by omega,by rw [PJ];exact hSl2,wx hlm hqm hS2 hp⟩
     have S26:=s58.pk [0,1,2,3,4,6]
     refine ⟨S26,?_⟩
     refine .f rfl (.aw 5 aQ s58 rfl rfl rfl underlying22 (s58.ah 8 rfl) (by simp only [KM];omega) (by simp only [KM];omega) λ v24 _ s65 _=> ?_)
     have s65:=s65.pk [0,1,2,3,4,5,6,7,9]
     have S27:=s65.pk [0,1,2,3,4,6]
     refine ⟨S27,?_⟩
     refine .f rfl (.aw 7 aQ s65 rfl rfl rfl underlying22 (s65.ah 8 rfl) (by simp only [KM];omega) (by simp only [KM];omega) λ v25 _ s66 _=> ?_)
     have s66:=s66.pk [0,1,2,3,4,5,6,7]
     obtain ⟨sv2,hsv2,hsv2n⟩:=(s66.ah 7 rfl).sv
     subst hsv2
     have S28:=s66.pk [0,1,2,3,4,6]
     refine ⟨S28,?_⟩
     refine .ix 1 S28 (·.ah 4 rfl) rfl<| .bar rfl rfl rfl (OpE.cH (a:=(sv2,p.2++[k])) 4 fR s66 rfl rfl rfl rfl (by omega) λ _ s67 _=> ?_)
     have S29:=s67.pk [0,1,2,3,6]
     refine ⟨S29,?_⟩
     refine .fin ?_
     have s69:=(Sat.Cf (A:=[aq b1 30 [c.va,c.vt,c.vx,c.vr,c.vn,c.vh,c.vl],cL jv 5 (aa .u8) (acc++cr at_.1++uv sn),cL vv 9 (ax) (us),cL wv 9 (ax) (a8 us),cL pv2 22 (ck Nat) (S2.set q (sv2,p.2++[k])),cL v24 3 (aa .i64) (lG l k q m++[q]),bh 3 (aa .i64) (S2.eraseIdx q)]) (s67.pk [0,1,2,3,4,5,6,7]) 6 rfl (by omega)).nn
     have s70:=s69.aZ 5 rfl (show lG l k q m++[q]=lG l k (q+1) m from wu hlm hqm)
     refine .U rfl ?_
     exact aT (q+1,v24,pv2,S2.set q (sv2,p.2++[k])) ⟨s70,by omega,by rw [PJ];exact hSl2,wx hlm hqm hS2 hp⟩
    have s56:=s56.nn
    have S30:=s56.pk [0,1,2,3,4,6]
    refine ⟨S30,?_⟩
    refine .f rfl (.bU (aa .i64) q aQ rfl s56 rfl λ v26 _ s71 _=> ?_)
    have S31:=s71.pk [0,1,2,3,4,6]
    refine ⟨S31,?_⟩
    refine .f rfl (.aw 5 aQ s71 rfl rfl rfl underlying22 (s71.ah 9 rfl) (by simp only [KM];omega) (by simp only [KM];omega) λ v27 _ s72 _=> ?_)
    have s72:=s72.pk [0,1,2,3,4,5,6,7,8]
    have S32:=s72.pk [0,1,2,3,4,6]
    refine ⟨S32,?_⟩
    refine .f rfl (.aw 7 aQ s72 rfl rfl rfl underlying22 (s72.ah 8 rfl) (by simp only [KM];omega) (by simp only [KM];omega) λ v28 _ s73 _=> ?_)
    have s73:=s73.pk [0,1,2,3,4,5,6,7]
    obtain ⟨sv3,hsv3,hsv3n⟩:=(s73.ah 7 rfl).sv
    subst hsv3
    have S33:=s73.pk [0,1,2,3,4,6]
    refine ⟨S33,?_⟩
    refine .ix 1 S33 (·.ah 4 rfl) rfl<| .bar rfl rfl rfl (OpE.cH (a:=(sv3,p.2++[k])) 4 fR s73 rfl rfl rfl rfl (by omega) λ _ s74 _=> ?_)
    have S34:=s74.pk [0,1,2,3,6]
    refine ⟨S34,?_⟩
    refine .fin ?_
    have s76:=(Sat.Cf (A:=[aq b1 30 [c.va,c.vt,c.vx,c.vr,c.vn,c.vh,c.vl],cL jv 5 (aa .u8) (acc++cr at_.1++uv sn),cL vv 9 (ax) (us),cL wv 9 (ax) (a8 us),cL pv2 22 (ck Nat) (S2.set q (sv3,p.2++[k])),cL v27 3 (aa .i64) (lG l k q m++[q]),bh 3 (aa .i64) (S2.eraseIdx q)]) (s74.pk [0,1,2,3,4,5,6,7]) 6 rfl (by omega)).nn
    have s77:=s76.aZ 5 rfl (show lG l k q m++[q]=lG l k (q+1) m from wu hlm hqm)
    refine .U rfl ?_
    exact aT (q+1,v27,pv2,S2.set q (sv3,p.2++[k])) ⟨s77,by omega,by rw [PJ];exact hSl2,wx hlm hqm hS2 hp⟩
   refine .skip<| .U rfl ?_
   have s78:=s52.aZ 5 rfl (show lG l k q m=lG l k (q+1) m from (H6 λ e=>c7 ((wq hx hz).2 (e.trans hm0))).symm)
   exact aT (q+1,nv2,pv2,S2) ⟨s78,by omega,hSl2,by rw [H6 λ e=>c7 ((wq hx hz).2 (e.trans hm0))];exact hS2⟩
  refine .ao<| .U rfl ?_
  have s79:=s52.aZ 5 rfl (show lG l k q m=l.take (k+1) from wm (by omega))
  exact aT (k+1,nv2,pv2,S2) ⟨s79,by omega,hSl2,by rw [<-wm (l:=l) (k:=k) (q:=q) (m:=m) (by omega)];exact hS2⟩
 refine .ao<| .seq ?_
 have s80:=s50.aZ 5 rfl (show l.take k=l from by rw [show k=l.length by omega,PW])
 rw [show k=l.length by omega,PW] at hS
 have hq1:=bK (strOf (lexB us))
 rw [bX] at hq1
 have hu1:=aD sn
 refine .region<| .c 2 (CV _ (us) _ (s80.ah 2 rfl) hbe) rfl λ r4 _ h4=> ?_
 have s81:=(s80.az h4).nn
 refine .e rfl (.cZ underlying45 underlying9 underlying5 rfl (s81.ah 7 rfl))<| .c 0 (fo _ (acc++cr at_.1++uv sn) (strOf (lexB us)) _ (s81.ah 1 rfl) (by rw [bX];(try simp only [sp]);omega)) rfl λ r5 _ h5=> ?_
 have s82:=s81.az h5
 refine .c 1 (EN _ (l) _ (s82.ah 5 rfl) (hl)) rfl λ r6 _ h6=> ?_
 have s83:=s82.az h6
 refine .e rfl (.cZ underlying45 underlying9 underlying5 rfl (s83.ah 9 rfl))<| .c 0 (fo _ (acc++cr at_.1++uv sn++cr (strOf (lexB us))) (strOf (bW l)) _ (s83.ah 8 rfl) (by rw [bX];(try simp only [sp]);omega)) rfl λ r7 _ h7=> ?_
 have s84:=(s83.az h7).nn
 refine .Z rfl<| .seq<| .h<| .ln 1 (s84.ah 4 rfl) rfl<| .Z rfl<| .block ?_
 have s85:=(Sat.order [0,10,4,6,1,2,3,5,7,8,9] (by decide) s84.tail).aI.pk [0,1,2,3]
 have s86:=s85.aZ 1 rfl (show acc++cr at_.1++uv sn++cr (strOf (lexB us))++cr (strOf (bW l))=acc++(cr at_.1++(uv sn++(ke (lexB us)++ke (bW l)))) from by rw [show cr (strOf (lexB us))=ke (lexB us) from gr (dN rfl (fS _ _ _)),show cr (strOf (bW l))=ke (bW l) from gr (dN rfl (jO (et l)))];simp only [LW])
 refine .lq [1,2,4,6,13,39,40,104,145,146] rfl (α:=Nat×Value×List Nat) (λ (k,sv,bs)=>[(0,sv),(147,(.int .i64 k))]) (λ (k,sv,bs) w'=>Sat w (s86.U [(1,cL sv 5 (aa .u8) (bs))]) w'/\(k<=(a8 us).length)/\(bs=acc++(cr at_.1++(uv sn++(ke (lexB us)++ke (bW l))))++sV l k)/\(bs.length<=acc.length+2200000+40020*k)) (λ (k,sv,bs)=>S.length-k) (0,r7,acc++(cr at_.1++(uv sn++(ke (lexB us)++ke (bW l))))) ⟨s86,KD _,by simp [sV],by have h1:=aD sn;have h2:=aD (lexB us).length;have h3:=aD (bW l).length;unfold ke;simp only [sp];omega⟩ ?_
 rintro ⟨k,sv,bs⟩ w47 ⟨s87,hk,hbs,hbl⟩
 refine .Z rfl<| .seq<| .ae rfl (λ c8=> ?_) λ c8=> ?_
 ·refine .skip<| .seq<| .block<| .seq ?_
  obtain ⟨q,hq⟩:∃ q,(S)[k]? =some q:=⟨_,py c8⟩
  obtain ⟨hq2,hqm⟩:=qc hS hq
  have hqo:OkP q.2:=by rw [hq2];exact kY k (by omega)
  have hpl:=je hqo
  have htn:=bK (strOf (aM (mH q.2)))
  rw [bX,bL] at htn
  refine .region<| .ix 0 (s87.ah 2 rfl) rfl<| .le 0 (s87.ah 2 rfl) hq rfl<| .Z rfl<| .region<| .c 2 (CX _ (q.2) _ (s87.bt 3 rfl hq) hqo) rfl λ r8 _ h8=> ?_
  have s88:=s87.az h8
  refine .e rfl (.cZ underlying45 underlying9 underlying5 rfl (s88.ah 4 rfl))<| .c 0 (fo _ (bs) (strOf (aM (mH q.2))) _ (s88.ah 1 rfl) (by rw [bX,bL];omega)) rfl λ r9 _ h9=> ?_
  have s89:=(s88.az h9).nn
  refine .Z rfl<| .U rfl ?_
  have s90:=(Sat.order [0,5,2,3,1,4] (by decide) s89.tail).aI.pk [0,1,2,3]
  exact aT (k+1,r9,bs++cr (strOf (aM (mH q.2)))) ⟨s90,by omega,by rw [gr (dN rfl (iA _)),hq2,hbs];unfold sV;rw [vF,LW],by rw [sp];omega⟩
 refine .ao<| .Z rfl<| .aC rfl rfl ?_
 have s91:=s87.pk [1]
 have he:bs=acc++jJ lexB bW at_ (eK c a):=by
  rw [hbs,show k=(a8 us).length by omega,hsn,hl0,<-hu0];unfold jJ;simp only [LW]
 rw [he] at s91
 exact s91
theorem EP (c:Co) (n:Nat) (w:World) (hr:RdC w c) (ho:OkC n c) (hn:n<=3):
  CallsV prog 35 [(.agg #[c.va,c.vt,c.vx,c.vr,c.vn,c.vh,c.vl])] w λ r w'=>r= .bool false/\Sat w [] w':=by
 have htk:=ho.ntk
 have htx:=ho.ntx
 have hrg:=ho.nrg
 have hnd:=ho.nnd
 have hat:=ho.at_.2
 have hs0:=Sat.start w
 refine ai func35 rfl rfl ?_
 refine .h<| .bx 0 hs0 rfl λ b1 _ s1 _ _=> .Z rfl<| .seq<| .h<| .ld 1 s1 0 rfl<| .ln 0 (hr.a.ext s1.ext) rfl<| .Z rfl<| .block<| .lq [0,1,9] rfl (α:=Nat) (λ k=>[(10,(.int .i64 k))]) (λ k w'=>Sat w s1.L w') (λ k=>c.at_.length-k) 0 s1 ?_
 rintro k w2 s2
 refine .Z rfl<| .seq<| .ae rfl (λ c1=> ?_) λ c1=> ?_
 ·refine .skip<| .seq<| .block<| .seq ?_
  obtain ⟨x,hx⟩:∃ x,(c.at_)[k]? =some x:=⟨_,py c1⟩
  refine .U rfl<| .h<| .f rfl (.MI s2 λ mb1 _ s3=> ?_)
  refine .Z rfl<| .seq<| .h<| .ld 1 s3 0 rfl<| .ln 0 (hr.t.ext s3.ext) rfl<| .Z rfl<| .block<| .lq [0,1,3,4,9,10,15,16] rfl (α:=Nat) (λ j=>[(17,(.int .i64 j))]) (λ j w'=>Sat w (s3.U [(1,N2 mb1 (j))]) w'/\(j<=c.tk.length)) (λ j=>c.tk.length-j) 0 ⟨s3,KD _⟩ ?_
  rintro j w4 ⟨s4,hj⟩
  refine .Z rfl<| .seq<| .ae rfl (λ c2=> ?_) λ c2=> ?_
  ·refine .skip<| .seq<| .block<| .seq ?_
   obtain ⟨x,hx⟩:∃ x,(c.tk)[j]? =some x:=⟨_,py c2⟩
   have htl9:=(ho.tk x (a7 hx)).1
   obtain ⟨y,hy⟩:∃ y,x.ns[k]? =some y:=⟨_,py (by omega)⟩
   refine .region<| .ix 0 (hr.t.ext s4.ext) rfl<| .le 0 (hr.t.ext s4.ext) hx rfl<| .Z rfl<| .region<| .ix 3 ((hr.tr _ (a7 hx)).ext s4.ext) rfl<| .le 0 ((hr.tr _ (a7 hx)).ext s4.ext) hy rfl<| .f rfl (.Og (i:=1) underlying148 underlying9 s4 rfl rfl rfl rfl λ _ s5=> ?_)
   have s5:=s5.nn
   refine .nil<| .U rfl ?_
   exact aT (j+1) ⟨s5,by omega⟩
  refine .ao<| .seq ?_
  obtain ⟨ml,hml,hmb⟩:=s4.Om (i:=1) rfl
  refine .region<| .a 1 rfl (.OB underlying148 hmb rfl)<| .Z rfl<| .aj rfl (IN (by omega))<| .skip<| .U rfl ?_
  exact aT (k+1) (s4.pk [0])
 refine .ao<| .Z rfl<| .aC rfl rfl ?_
 exact ⟨rfl,s2.pk []⟩
theorem CY (v:Value) (l:List (ByteArray×Bool)) (w:World) (hv:RdL w v cE l) (h:atsOk l):
  CallsV prog 85 [v] w λ r w'=>r= .tuple #[.int .i64 ((0:Nat):Int),.int .i64 ((0:Nat):Int)]/\Sat w [] w':=by
 have hat:=h.2
 have hs0:=Sat.start w
 refine ai func85 rfl rfl ?_
 refine .Z rfl<| .seq<| .h<| .ln 1 (hv.ext hs0.ext) rfl<| .Z rfl<| .aj rfl (IN (by omega))<| .skip<| .seq<| .h<| .ln 1 (hv.ext hs0.ext) rfl<| .Z rfl<| .aj rfl (IN (by omega))<| .skip<| .seq<| .h<| .ln 1 (hv.ext hs0.ext) rfl<| .Z rfl<| .block<| .lq [0,14,15] rfl (α:=Nat) (λ k=>[(16,(.int .i64 k))]) (λ k w'=>Sat w [] w') (λ k=>l.length-k) 0 hs0 ?_
 rintro k w1 s1
 refine .Z rfl<| .seq<| .ae rfl (λ c1=> ?_) λ c1=> ?_
 ·refine .skip<| .seq<| .block<| .seq ?_
  obtain ⟨x,hx⟩:∃ x,(l)[k]? =some x:=⟨_,py c1⟩
  refine .region<| .ix 1 (hv.ext s1.ext) rfl<| .lg 0 (hv.ext s1.ext) hx rfl<| .al 0 s1 rfl λ b1 _ s2 _ _=> .sa 1 s2 0 rfl ((cE).one _) λ _ s3 _=> .nil<| .seq<| .h<| .ld 1 s3 0 rfl<| .cq 0 s3 (dO x.1 _) rfl λ _ s4=> .e rfl (.cO rfl)<| .nil<| .aj rfl (by simp [(h.1 k x hx).1])<| .skip<| .h<| .a 2 rfl (.aV (E:=cE) (a:=0) (c:=k) DU rfl (hv.ext s4.ext) rfl ⟨_,rfl⟩ (KD _) (by omega))<| .ln 0 (((hv.ext s4.ext)).sub (a:=0) (b:=k) (KD _) (by omega)) rfl<| .Z rfl<| .block<| .lq [0,4,5,14,15,16,28,29] rfl (α:=Nat) (λ j=>[(30,(.int .i64 j))]) (λ j w'=>Sat w s4.L w') (λ j=>(((l).take k).drop 0).length-j) 0 s4 ?_
  rintro j w5 s5
  refine .Z rfl<| .seq<| .ae rfl (λ c2=> ?_) λ c2=> ?_
  ·refine .skip<| .seq<| .block<| .seq ?_
   obtain ⟨y,hy⟩:∃ y,(((l).take k).drop 0)[j]? =some y:=⟨_,py c2⟩
   have hjl:(((l).take k).drop 0).length<=8:=by simp;omega
   refine .region<| .ix 0 (((hv.ext s5.ext)).sub (a:=0) (b:=k) (KD _) (by omega)) rfl<| .lg 0 (((hv.ext s5.ext)).sub (a:=0) (b:=k) (KD _) (by omega)) hy rfl<| .al 0 s5 rfl λ b2 _ s6 _ _=> .sa 0 s6 1 rfl ((cE).one _) λ _ s7 _=> .nil<| .h<| .ld 1 s7 0 rfl<| .ld 1 s7 1 rfl<| .e rfl (.eF rfl rfl)<| .nil<| .aj rfl (IN (λ e=>LM h hx hy e.symm))<| .skip<| .U rfl ?_
   exact aT (j+1) (s7.pk [0])
  refine .ao<| .U rfl ?_
  exact aT (k+1) (s5.pk [])
 refine .ao<| .Z rfl<| .cj rfl rfl rfl ?_
 exact ⟨rfl,s1.pk []⟩
theorem zN (c:Co) (n:Nat) (w:World) (hr:RdC w c) (ho:OkC n c) (hn:n<=3):
  CallsV prog 86 [(.agg #[c.va,c.vt,c.vx,c.vr,c.vn,c.vh,c.vl])] w λ r w'=>r= .tuple #[.int .i64 ((0:Nat):Int),.int .i64 ((0:Nat):Int)]/\Sat w [] w':=by
 have htk:=ho.ntk
 have htx:=ho.ntx
 have hrg:=ho.nrg
 have hnd:=ho.nnd
 have hat:=ho.at_.2
 have hs0:=Sat.start w
 refine ai func86 rfl rfl ?_
 refine .h<| .bx 0 hs0 rfl λ b1 _ s1 _ _=> .Z rfl<| .seq<| .h<| .ld 1 s1 0 rfl<| .ln 0 (hr.t.ext s1.ext) rfl<| .Z rfl<| .aj rfl (IN (by omega))<| .skip<| .seq<| .h<| .ld 1 s1 0 rfl<| .ln 0 (hr.t.ext s1.ext) rfl<| .Z rfl<| .block<| .lq [0,1,14,15] rfl (α:=Nat) (λ k=>[(16,(.int .i64 k))]) (λ k w'=>Sat w s1.L w') (λ k=>c.tk.length-k) 0 s1 ?_
 rintro k w2 s2
 refine .Z rfl<| .seq<| .ae rfl (λ c1=> ?_) λ c1=> ?_
 ·refine .skip<| .seq<| .block<| .seq ?_
  obtain ⟨x,hx⟩:∃ x,(c.tk)[k]? =some x:=⟨_,py c1⟩
  have htl:=(ho.tk x (a7 hx)).1
  refine .region<| .ix 1 (hr.t.ext s2.ext) rfl<| .le 0 (hr.t.ext s2.ext) hx rfl<| .Z rfl<| .seq<| .h<| .ln 1 ((hr.tr _ (a7 hx)).ext s2.ext) rfl<| .ld 1 s2 0 rfl<| .ln 0 (hr.a.ext s2.ext) rfl<| .Z rfl<| .aj rfl (IN (λ h=>h (ho.tk x (a7 hx)).1))<| .skip<| .h<| .ln 1 ((hr.tr _ (a7 hx)).ext s2.ext) rfl<| .Z rfl<| .block<| .lq [0,1,4,5,14,15,16,28,29] rfl (α:=Nat) (λ j=>[(30,(.int .i64 j))]) (λ j w'=>Sat w s2.L w') (λ j=>x.ns.length-j) 0 s2 ?_
  rintro j w3 s3
  refine .Z rfl<| .seq<| .ae rfl (λ c2=> ?_) λ c2=> ?_
  ·refine .skip<| .seq<| .block<| .seq ?_
   obtain ⟨v,hv⟩:∃ v,(x.ns)[j]? =some v:=⟨_,py c2⟩
   obtain ⟨a,ha⟩:∃ a,c.at_[j]? =some a:=⟨_,py (by omega)⟩
   refine .region<| .ix 1 ((hr.tr _ (a7 hx)).ext s3.ext) rfl<| .le 0 ((hr.tr _ (a7 hx)).ext s3.ext) hv rfl<| .Z rfl<| .h<| .ld 1 s3 0 rfl<| .ix 1 (hr.a.ext s3.ext) rfl<| .lg 0 (hr.a.ext s3.ext) ha rfl<| .cp 1 s3 (zq a v _ ((ho.tk x (a7 hx)).2 j v a hv ha)) rfl λ _ s4=> .Z rfl<| .Z rfl<| .aj rfl (rfl)<| .skip<| .U rfl ?_
   exact aT (j+1) s4
  refine .ao<| .U rfl ?_
  exact aT (k+1) s3
 refine .ao<| .Z rfl<| .cj rfl rfl rfl ?_
 exact ⟨rfl,s2.pk []⟩
theorem CZ (c:Co) (n:Nat) (w:World) (hr:RdC w c) (ho:OkC n c) (hn:n<=3):
  CallsV prog 87 [(.agg #[c.va,c.vt,c.vx,c.vr,c.vn,c.vh,c.vl])] w λ r w'=>r= .tuple #[.int .i64 ((0:Nat):Int),.int .i64 ((0:Nat):Int)]/\Sat w [] w':=by
 have htk:=ho.ntk
 have htx:=ho.ntx
 have hrg:=ho.nrg
 have hnd:=ho.nnd
 have hat:=ho.at_.2
 have hs0:=Sat.start w
 refine ai func87 rfl rfl ?_
 refine .h<| .bx 0 hs0 rfl λ b1 _ s1 _ _=> .Z rfl<| .h<| .ld 1 s1 0 rfl<| .ln 0 (hr.t.ext s1.ext) rfl<| .Z rfl<| .seq<| .h<| .ld 1 s1 0 rfl<| .ln 0 (hr.x.ext s1.ext) rfl<| .Z rfl<| .aj rfl (IN (by omega))<| .skip<| .seq<| .h<| .ld 1 s1 0 rfl<| .ln 0 (hr.x.ext s1.ext) rfl<| .a 3 rfl (.Oq underlying4 rfl rfl)<| .nil<| .aj rfl (ho.tx.lens)<| .skip<| .Z rfl<| .seq<| .h<| .ld 1 s1 0 rfl<| .ln 0 (hr.x.ext s1.ext) rfl<| .Z rfl<| .block<| .lq [0,1,4,26,27] rfl (α:=Nat×Int) (λ (k,en)=>[(5,(.int .i64 (en))),(28,(.int .i64 k))]) (λ (k,en) w'=>Sat w s1.L w'/\(∀ x,c.tx[k]? =some x->x.b=en)) (λ (k,en)=>c.tx.length-k) (0,0) ⟨s1,ho.tx.first⟩ ?_
 rintro ⟨k,en⟩ w2 ⟨s2,hen⟩
 refine .Z rfl<| .seq<| .ae rfl (λ c1=> ?_) λ c1=> ?_
 ·refine .skip<| .seq<| .block<| .seq ?_
  obtain ⟨x,hx⟩:∃ x,(c.tx)[k]? =some x:=⟨_,py c1⟩
  have hxo:=ho.tx.nm x (a7 hx)
  refine .region<| .ix 1 (hr.x.ext s2.ext) rfl<| .lg 0 (hr.x.ext s2.ext) hx rfl<| .al 0 s2 rfl λ b2 _ s3 _ _=> .sa 1 s3 1 rfl ((aG).one _) λ _ s4 _=> ?_
  have s4:=s4.nn
  refine .nil<| .seq<| .h<| .ld 1 s4 1 rfl<| .cp 0 s4 (dO x.nm _) rfl λ _ s5=> .e rfl (.cO rfl)<| .nil<| .aj rfl (by simp [hxo.1])<| .skip<| .seq<| .h<| .ld 1 s5 0 rfl<| .a 1 rfl (.aV (E:=aG) (a:=0) (c:=k) tf rfl (hr.x.ext s5.ext) rfl ⟨_,rfl⟩ (KD _) (by omega))<| .ln 0 (((hr.x.ext s5.ext)).sub (a:=0) (b:=k) (KD _) (by omega)) rfl<| .Z rfl<| .block<| .lq [0,1,4,5,6,7,26,27,28,41,42] rfl (α:=Nat) (λ j=>[(43,(.int .i64 j))]) (λ j w'=>Sat w s5.L w') (λ j=>(((c.tx).take k).drop 0).length-j) 0 s5 ?_
  rintro j w6 s6
  refine .Z rfl<| .seq<| .ae rfl (λ c2=> ?_) λ c2=> ?_
  ·refine .skip<| .seq<| .block<| .seq ?_
   obtain ⟨y,hy⟩:∃ y,(((c.tx).take k).drop 0)[j]? =some y:=⟨_,py c2⟩
   have hjl:(((c.tx).take k).drop 0).length<=3:=by simp;omega
   refine .region<| .ix 0 (((hr.x.ext s6.ext)).sub (a:=0) (b:=k) (KD _) (by omega)) rfl<| .lg 0 (((hr.x.ext s6.ext)).sub (a:=0) (b:=k) (KD _) (by omega)) hy rfl<| .al 0 s6 rfl λ b3 _ s7 _ _=> .sa 0 s7 2 rfl ((aG).one _) λ _ s8 _=> ?_
   have s8:=s8.nn
   refine .nil<| .h<| .ld 1 s8 2 rfl<| .ld 1 s8 1 rfl<| .e rfl (.eF rfl rfl)<| .nil<| .aj rfl (IN (ho.tx.nd k j x y hx (rN hy).2 (rN hy).1))<| .skip<| .U rfl ?_
   exact aT (j+1) (s8.pk [0,1])
  refine .ao<| .seq<| .seq<| .bN 84 (((((x.b:Int)≠(en:Int))\/((x.e:Int)<=(x.b:Int)))\/(((c.tk.length:Nat):Int)<(x.e:Int)))\/((k=(c.tx.length-1))/\((x.e:Int)≠((c.tk.length:Nat):Int)))) ?_ ?_
  ·refine .ld 1 s6 1 rfl<| .a 1 rfl (.neq rfl rfl)<| .z 1 rfl<| .B 58 rfl (λ g1=> ?_) λ g1=> ?_
   ·refine .M rfl (by simp [g1])
   refine .ld 1 s6 1 rfl<| .ld 1 s6 1 rfl<| .a 0 rfl (.leq rfl rfl)<| .z 2 rfl<| .B 65 rfl (λ g2=> ?_) λ g2=> ?_
   ·refine .M rfl (by simp [g1,g2])
   refine .ld 1 s6 1 rfl<| .a 1 rfl (.gtr rfl rfl)<| .z 2 rfl<| .B 71 rfl (λ g3=> ?_) λ g3=> ?_
   ·refine .M rfl (by simp [g1,g2,g3])
   refine .ld 2 s6 0 rfl<| .ln 0 (hr.x.ext s6.ext) rfl<| .z 3 rfl<| .B 78 rfl (λ g4=> ?_) λ g4=> ?_
   ·refine .ld 1 s6 1 rfl<| .a 1 rfl (.neq rfl rfl)<| .M rfl (by simp [g1,g2,g3,g4])
   refine .M rfl (by simp [g1,g2,g3,g4])
  refine .aj rfl (IN (λ h=>h.elim (λ h=>h.elim (λ h=>h.elim (λ h=>h (hen x hx)) (λ h=>by omega)) (λ h=>by omega)) (λ h=>h.2 (ho.tx.last k x hx (by omega)))))<| .skip<| .seq<| .h<| .ld 1 s6 1 rfl<| .cp 0 s6 (tj _ (x.ps) _ ((hr.xr _ (a7 hx)).ext s6.ext) (hxo.2.1)) rfl λ _ s10=> .Z rfl<| .Z rfl<| .aj rfl (rfl)<| .skip<| .region<| .ld 1 s10 1 rfl<| .Z rfl<| .U rfl ?_
  exact aT (k+1,x.e) ⟨s10.pk [0],λ y hy=>ho.tx.next k x y hx hy⟩
 refine .ao<| .Z rfl<| .cj rfl rfl rfl ?_
 exact ⟨rfl,s2.pk []⟩
theorem tI (c:Co) (b e:Int) (w:World) (hr:RdC w c) (n:Nat) (ho:OkC n c) (hn:n<=3) (hin:inT c.tx b e):
  CallsV prog 137 [(.agg #[c.va,c.vt,c.vx,c.vr,c.vn,c.vh,c.vl]),(.int .i64 (b)),(.int .i64 (e))] w λ r w'=>r= .bool true/\Sat w [] w':=by
 have htx:=ho.ntx
 obtain ⟨t,ht,ht1,ht2,ht3⟩:=hin
 obtain ⟨m,hm⟩:=Qh ht
 have hml:=(AT.1 hm).1
 have hs0:=Sat.start w
 refine ai func137 rfl rfl ?_
 refine .h<| .bx 0 hs0 rfl λ b1 _ s1 _ _=> .Z rfl<| .seq<| .h<| .ld 1 s1 0 rfl<| .ln 0 (hr.x.ext s1.ext) rfl<| .Z rfl<| .block<| .lq [0,1,2,3,10,11] rfl (α:=Nat) (λ k=>[(12,(.int .i64 k))]) (λ k w'=>Sat w s1.L w'/\(∀ (j:Nat) t,j<k->c.tx[j]? =some t->¬ ((t.b<=b/\b<e)/\e<=t.e))) (λ k=>c.tx.length-k) 0 ⟨s1,λ j t h=>absurd h (by omega)⟩ ?_
 rintro k w2 ⟨s2,hno⟩
 refine .Z rfl<| .seq<| .ae rfl (λ c1=> ?_) λ c1=> ?_
 ·refine .skip<| .seq<| .block<| .seq ?_
  obtain ⟨x,hx⟩:∃ x,(c.tx)[k]? =some x:=⟨_,py c1⟩
  refine .region<| .ix 0 (hr.x.ext s2.ext) rfl<| .lg 0 (hr.x.ext s2.ext) hx rfl<| .al 0 s2 rfl λ b2 _ s3 _ _=> .sa 0 s3 1 rfl ((aG).one _) λ _ s4 _=> ?_
  have s4:=s4.nn
  refine .nil<| .seq<| .bN 30 ((((x.b:Int)<=(b:Int))/\((b:Int)<(e:Int)))/\((e:Int)<=(x.e:Int))) ?_ ?_
  ·refine .ld 1 s4 1 rfl<| .a 1 rfl (.leq rfl rfl)<| .z 1 rfl<| .B 20 rfl (λ g1=> ?_) λ g1=> ?_
   ·refine .a 2 rfl (.lss rfl rfl)<| .z 2 rfl<| .B 25 rfl (λ g2=> ?_) λ g2=> ?_
    ·refine .ld 2 s4 1 rfl<| .a 0 rfl (.leq rfl rfl)<| .M rfl (by simp [g1,g2])
    refine .M rfl (by simp [g1,g2])
   refine .M rfl (by simp [g1])
  refine .ae rfl (λ c2=> ?_) λ c2=> ?_
  ·refine .Z rfl<| .aC rfl rfl ?_
   exact ⟨rfl,s4.pk []⟩
  refine .skip<| .U rfl ?_
  exact aT (k+1) ⟨s4.pk [0],iT hno hx c2⟩
 refine .ao<| .Z rfl<| .aC rfl rfl ?_
 have s7:=s2.pk []
 exact absurd ⟨⟨ht1,ht2⟩,ht3⟩ (hno m t (by omega) hm)
theorem xv (c:Co) (n:Nat) (w:World) (hr:RdC w c) (ho:OkC n c) (hn:n<=3):
  CallsV prog 88 [(.agg #[c.va,c.vt,c.vx,c.vr,c.vn,c.vh,c.vl])] w λ r w'=>r= .tuple #[.int .i64 ((0:Nat):Int),.int .i64 ((0:Nat):Int)]/\Sat w [] w':=by
 have htk:=ho.ntk
 have htx:=ho.ntx
 have hrg:=ho.nrg
 have hnd:=ho.nnd
 have hat:=ho.at_.2
 have hs0:=Sat.start w
 refine ai func88 rfl rfl ?_
 refine .h<| .bx 0 hs0 rfl λ b1 _ s1 _ _=> .Z rfl<| .seq<| .h<| .ld 1 s1 0 rfl<| .ln 0 (hr.r.ext s1.ext) rfl<| .Z rfl<| .aj rfl (IN (by omega))<| .skip<| .seq<| .h<| .ld 1 s1 0 rfl<| .ln 0 (hr.r.ext s1.ext) rfl<| .Z rfl<| .block<| .lq [0,1,15,16] rfl (α:=Nat) (λ k=>[(17,(.int .i64 k))]) (λ k w'=>Sat w s1.L w') (λ k=>c.rg.length-k) 0 s1 ?_
 rintro k w2 s2
 refine .Z rfl<| .seq<| .ae rfl (λ c1=> ?_) λ c1=> ?_
 ·refine .skip<| .seq<| .block<| .seq ?_
  obtain ⟨x,hx⟩:∃ x,(c.rg)[k]? =some x:=⟨_,py c1⟩
  have hxo:=ho.rg.el x (a7 hx)
  refine .region<| .ix 1 (hr.r.ext s2.ext) rfl<| .lg 0 (hr.r.ext s2.ext) hx rfl<| .al 0 s2 rfl λ b2 _ s3 _ _=> .sa 1 s3 1 rfl ((aG).one _) λ _ s4 _=> ?_
  have s4:=s4.nn
  refine .nil<| .seq<| .block<| .h<| .ld 1 s4 1 rfl<| .cp 0 s4 (dO x.nm _) rfl λ _ s5=> .e rfl (.cO rfl)<| .Z rfl<| .aj rfl (by simp [hxo.1])<| .h<| .lo 0 s5 0 rfl<| .ld 1 s5 1 rfl<| .ld 1 s5 1 rfl<| .cp 0 s5 (tI c (x.b) (x.e) _ (hr.ext s5.ext) _ ho hn (hxo.2.1)) rfl λ _ s6=> .Z rfl<| .aj rfl (rfl)<| .skip<| .seq<| .h<| .ld 1 s6 1 rfl<| .cq 0 s6 (tj _ (x.ps) _ ((hr.rr _ (a7 hx)).ext s6.ext) (hxo.2.2)) rfl λ _ s7=> .Z rfl<| .Z rfl<| .aj rfl (rfl)<| .skip<| .seq<| .seq ?_
  obtain ⟨y,hy⟩:=pN hx
  refine .md [0,1,4,5,6,15,16,17] rfl (λ K L' w'=>Weak ([(56,(.bool (decide ((0<k)/\((0:Int)<((ep y x):Int))))))]++K) L'/\Sat w s7.L w') ?_ ?_
  ·refine .dk [0,1] s7 rfl (pl [0,1,2,3,4,5,6,7,8,9,1010,11,12] .fin) λ s8 S1=> .z 3 S1 rfl<| .B 46 rfl (λ g1=> ?_) λ g1=> ?_
   ·refine .ld 1 S1 0 rfl<| .ix 2 S1 (hr.r.ext ·.ext) rfl<| .lg 0 S1 (hr.r.ext ·.ext) (hy (by omega)) rfl<| .a 0 S1 rfl (λ _ s=> .fH yQ rfl s (i:=1) rfl rfl)<| .c 0 S1 (wU y x _ ((hr.rr _ (a7 (hy (by omega)))).ext s8.ext) ((hr.rr _ (a7 hx)).ext s8.ext) (by have:=(ho.rg.el y (a7 (hy (by omega)))).2.2.1;omega) (by have:=hxo.2.2.1;omega)) rfl λ r4 _ h4=> ?_
    obtain ⟨rfl,p4⟩:=h4
    have s9:=s8.az p4
    have S2:=s9.pk [0,1]
    refine ⟨S2,?_⟩
    refine .a 0 S2 rfl (λ _ s=> .gtr rfl rfl)<| .Z S2 rfl ?_
    exact ⟨⟨If some (If Value.bool (by simp [g1])),rfl,rfl,rfl,rfl,rfl,rfl,rfl,rfl,trivial⟩,s9⟩
   refine .Z S1 rfl ?_
   exact ⟨⟨If some (If Value.bool (by simp [g1])),rfl,rfl,rfl,rfl,rfl,rfl,rfl,rfl,trivial⟩,s8⟩
  rintro L' w9 ⟨hw1,s10⟩
  refine .weaken _ hw1<| .aj rfl (IN (λ h=>by have:=ho.rg.asc (k-1) y x (hy h.1) (by rw [show k-1+1=k by omega];exact hx);omega))<| .skip<| .Z rfl<| .seq<| .h<| .ld 1 s10 0 rfl<| .a 2 rfl (.aV (E:=aG) (a:=0) (c:=(k+1)) oU rfl (hr.r.ext s10.ext) rfl ⟨_,rfl⟩ (KD _) (by omega))<| .ln 0 (((hr.r.ext s10.ext)).sub (a:=0) (b:=(k+1)) (KD _) (by omega)) rfl<| .Z rfl<| .block ?_
  have hjl:(((c.rg).take (k+1)).drop 0).length<=24:=by simp;omega
  refine .lq [0,1,4,5,6,15,16,17,62,63] rfl (α:=Nat×Nat) (λ (j,d)=>[(7,(.int .i64 d)),(64,(.int .i64 j))]) (λ (j,d) w'=>Sat w s10.L w'/\(d<=j)/\(j<=(((c.rg).take (k+1)).drop 0).length)) (λ (j,d)=>(((c.rg).take (k+1)).drop 0).length-j) (0,0) ⟨s10,KB _,KD _⟩ ?_
  rintro ⟨j,d⟩ w10 ⟨s11,hd,hjo⟩
  refine .Z rfl<| .seq<| .ae rfl (λ c2=> ?_) λ c2=> ?_
  ·refine .skip<| .seq<| .block<| .seq ?_
   obtain ⟨z,hz⟩:∃ z,(((c.rg).take (k+1)).drop 0)[j]? =some z:=⟨_,py c2⟩
   refine .region<| .ix 1 (((hr.r.ext s11.ext)).sub (a:=0) (b:=(k+1)) (KD _) (by omega)) rfl<| .lg 0 (((hr.r.ext s11.ext)).sub (a:=0) (b:=(k+1)) (KD _) (by omega)) hz rfl<| .al 0 s11 rfl λ b3 _ s12 _ _=> .sa 1 s12 2 rfl ((aG).one _) λ _ s13 _=> .nil<| .jn [0,1,4,5,6,8,9,15,16,17,62,63,64] rfl (λ K L' w'=>∃ (d2:Nat),Weak ([(7,(.int .i64 d2))]++K) L'/\Sat w s13.L w'/\(d2<=j+1)) ?_ ?_
   ·refine .seq<| .bN 80 (((z.b:Int)<=(x.b:Int))/\((x.b:Int)<(z.e:Int))) ?_ ?_
    ·refine .ld 1 s13 2 rfl<| .ld 1 s13 1 rfl<| .e rfl (.leq rfl rfl)<| .z 1 rfl<| .B 74 rfl (λ g2=> ?_) λ g2=> ?_
     ·refine .ld 1 s13 1 rfl<| .ld 1 s13 2 rfl<| .a 0 rfl (.lss rfl rfl)<| .M rfl (by simp [g2])
     refine .M rfl (by simp [g2])
    refine .ae rfl (λ c3=> ?_) λ c3=> ?_
    ·refine .U rfl ?_
     exact ⟨(d+1),(wk rfl),s13,by omega⟩
    refine .skip ?_
    exact ⟨d,(wk rfl),s13,by omega⟩
   rintro L' w13 ⟨d2,hw2,s14,hd2⟩
   refine .weaken _ hw2<| .seq<| .bN 136 ((((((j<k)/\(z.nm=x.nm))/\((z.b:Int)<(x.e:Int)))/\((x.b:Int)<(z.e:Int)))/\(¬ (((z.b:Int)<=(x.b:Int))/\((x.e:Int)<=(z.e:Int)))))/\(¬ (((x.b:Int)<=(z.b:Int))/\((z.e:Int)<=(x.e:Int))))) ?_ ?_
   ·refine .z 4 rfl<| .B 86 rfl (λ g3=> ?_) λ g3=> ?_
    ·refine .ld 1 s14 2 rfl<| .ld 1 s14 1 rfl<| .a 0 rfl (.eF rfl rfl)<| .z 2 rfl<| .B 93 rfl (λ g4=> ?_) λ g4=> ?_
     ·refine .ld 1 s14 2 rfl<| .ld 1 s14 1 rfl<| .a 0 rfl (.lss rfl rfl)<| .z 2 rfl<| .B 100 rfl (λ g5=> ?_) λ g5=> ?_
      ·refine .ld 1 s14 1 rfl<| .ld 1 s14 2 rfl<| .a 0 rfl (.lss rfl rfl)<| .z 2 rfl<| .B 107 rfl (λ g6=> ?_) λ g6=> ?_
       ·refine .ld 1 s14 2 rfl<| .ld 1 s14 1 rfl<| .a 0 rfl (.leq rfl rfl)<| .z 1 rfl<| .B 113 rfl (λ g7=> ?_) λ g7=> ?_
        ·refine .ld 1 s14 1 rfl<| .ld 1 s14 2 rfl<| .a 0 rfl (.leq rfl rfl)<| .a 1 rfl (.mF rfl)<| .z 2 rfl<| .B 122 rfl (λ g8=> ?_) λ g8=> ?_
         ·refine .ld 1 s14 1 rfl<| .ld 1 s14 2 rfl<| .a 0 rfl (.leq rfl rfl)<| .z 1 rfl<| .B 128 rfl (λ g9=> ?_) λ g9=> ?_
          ·refine .ld 1 s14 2 rfl<| .ld 1 s14 1 rfl<| .a 0 rfl (.leq rfl rfl)<| .a 1 rfl (.mF rfl)<| .M rfl (by simp [g3,g4,g5,g6,g7,g8,g9])
          refine .M rfl (by simp [g3,g4,g5,g6,g7,g8,g9])
         refine .M rfl (by simp [g3,g4,g5,g6,g7,g8])
        refine .ld 10 s14 1 rfl<| .ld 1 s14 2 rfl<| .a 0 rfl (.leq rfl rfl)<| .z 1 rfl<| .B 128 rfl (λ g10=> ?_) λ g10=> ?_
        ·refine .ld 1 s14 2 rfl<| .ld 1 s14 1 rfl<| .a 0 rfl (.leq rfl rfl)<| .a 1 rfl (.mF rfl)<| .M rfl (by simp [g10,g3,g4,g5,g6,g7])
        refine .M rfl (by simp [g10,g3,g4,g5,g6,g7])
       refine .M rfl (by simp [g3,g4,g5,g6])
      refine .M rfl (by simp [g3,g4,g5])
     refine .M rfl (by simp [g3,g4])
    refine .M rfl (by simp [g3])
   refine .aj rfl (IN (λ h=>ho.rg.nox z (a7 (rN hz).2) x (a7 hx) h.1.1.1.1.2 ⟨h.1.1.1.2,h.1.1.2,h.1.2,h.2⟩))<| .skip<| .U rfl ?_
   exact aT (j+1,d2) ⟨s14.pk [0,1],by omega,by omega⟩
  refine .ao<| .Z rfl<| .aj rfl (IN (by omega))<| .skip<| .U rfl ?_
  exact aT (k+1) (s11.pk [0])
 refine .ao<| .Z rfl<| .cj rfl rfl rfl ?_
 exact ⟨rfl,s2.pk []⟩
theorem D0 (c:Co) (n:Nat) (w:World) (hr:RdC w c) (ho:OkC n c) (hn:n<=3):
  CallsV prog 89 [c.vn,(.agg #[c.va,c.vt,c.vx,c.vr,c.vn,c.vh,c.vl])] w λ r w'=>r= .tuple #[.int .i64 ((0:Nat):Int),.int .i64 ((0:Nat):Int)]/\Sat w [] w':=by
 have htk:=ho.ntk
 have htx:=ho.ntx
 have hrg:=ho.nrg
 have hnd:=ho.nnd
 have hat:=ho.at_.2
 have hs0:=Sat.start w
 refine ai func89 rfl rfl ?_
 refine .h<| .bx 0 hs0 rfl λ b1 _ s1 _ _=> .Z rfl<| .seq<| .h<| .ln 1 (hr.n.ext s1.ext) rfl<| .Z rfl<| .aj rfl (IN (by omega))<| .skip<| .h<| .ln 1 (hr.n.ext s1.ext) rfl<| .f rfl (.cP (aa .i64) (0) aQ rfl s1 rfl rfl (by omega) (by omega) (by omega) λ v1 _ s2 _=> ?_)
 refine .Z rfl<| .seq<| .h<| .ln 1 (hr.n.ext s2.ext) rfl<| .Z rfl<| .block<| .lq [0,1,3,18,19] rfl (α:=Nat×Value×List Nat) (λ (k,dv,dp)=>[(6,dv),(20,(.int .i64 k))]) (λ (k,dv,dp) w'=>Sat w (s2.U [(1,cL dv 3 (aa .i64) (dp))]) w'/\(dp.length=c.nd.length)/\(∀ (q:Nat) d,dp[q]? =some d->d<=q+1/\(k<=q->d=0))) (λ (k,dv,dp)=>c.nd.length-k) (0,v1,List.replicate (c.nd.length) 0) ⟨s2,by simp,(λ q z h=>by rw [Ro] at h;split at h;cases h;omega;cases h)⟩ ?_
 rintro ⟨k,dv,dp⟩ w3 ⟨s3,hdl,hdp⟩
 refine .Z rfl<| .seq<| .ae rfl (λ c1=> ?_) λ c1=> ?_
 ·refine .skip<| .seq<| .block<| .seq ?_
  obtain ⟨x,hx⟩:∃ x,(c.nd)[k]? =some x:=⟨_,py c1⟩
  have hxo:=ho.nd.el x (a7 hx)
  have hxp:=ho.nd.par k x hx
  have hxq:=hxp.imp_right (·.1)
  refine .region<| .ix 1 (hr.n.ext s3.ext) rfl<| .lg 0 (hr.n.ext s3.ext) hx rfl<| .al 0 s3 rfl λ b2 _ s4 _ _=> ?_
  have s4:=s4.nn
  refine .sa 1 s4 2 rfl ((bE).one _) λ _ s5 _=> .nil<| .seq<| .block<| .h<| .ld 1 s5 2 rfl<| .cp 0 s5 (dO x.nm _) rfl λ _ s6=> .e rfl (.cO rfl)<| .Z rfl<| .aj rfl (by simp [hxo.1])<| .h<| .lo 0 s6 0 rfl<| .ld 1 s6 2 rfl<| .ld 1 s6 2 rfl<| .cq 0 s6 (tI c (x.b) (x.e) _ (hr.ext s6.ext) _ ho hn (hxo.2)) rfl λ _ s7=> .Z rfl<| .aj rfl (rfl)<| .skip<| .h<| .a 1 rfl (.sub (b:=(1:Int)) rfl rfl (by unfold aY;omega))<| .Z rfl<| .seq<| .block<| .lq [0,1,3,6,7,8,18,19,20] rfl (α:=Int) (λ z=>[(9,(.int .i64 (z)))]) (λ z w'=>Sat w s7.L w'/\(-1<=z/\z<(c.nd.length:Int))/\(x.p= -1\/z=x.p)) (λ z=>(z+1).toNat) (((k:Nat):Int)-1) ⟨s7,by omega,by omega⟩ ?_
  rintro z w8 ⟨s8,hz,hzp⟩
  refine .seq<| .seq<| .bN 49 (((0:Int)<=(z:Int))/\((z:Int)≠(x.p:Int))) ?_ ?_
  ·refine .a 1 rfl (.geq rfl rfl)<| .z 1 rfl<| .B 44 rfl (λ g1=> ?_) λ g1=> ?_
   ·refine .ld 2 s8 2 rfl<| .a 0 rfl (.neq rfl rfl)<| .M rfl (by simp [g1])
   refine .M rfl (by simp [g1])
  refine .ae rfl (λ c2=> ?_) λ c2=> ?_
  ·refine .skip<| .block ?_
   obtain ⟨y,hy⟩:∃ y,c.nd[z.toNat]? =some y:=⟨_,py (by omega)⟩
   have hyq:=(ho.nd.par _ y hy).imp_right (·.1)
   refine .region<| .a 2 rfl (.j4 (j:=z.toNat) (E:=bE) iE rfl (fN (z:=z) (n:=z.toNat) (by omega)) (hr.n.ext s8.ext) (by omega))<| .fl 0 (hr.n.ext s8.ext) rfl<| .lf 0 (hr.n.ext s8.ext) hy rfl<| .Z rfl ?_
   exact aT y.p ⟨s8,by omega,by omega⟩
  refine .ao<| .seq<| .seq<| .bN 61 (((z:Int)<(0:Int))/\((x.p:Int)≠(-1:Int))) ?_ ?_
  ·refine .a 1 rfl (.lss rfl rfl)<| .z 1 rfl<| .B 57 rfl (λ g2=> ?_) λ g2=> ?_
   ·refine .ld 1 s8 2 rfl<| .a 0 rfl (.neq rfl rfl)<| .M rfl (by simp [g2])
   refine .M rfl (by simp [g2])
  refine .aj rfl (IN (by omega))<| .skip<| .jn [0,1,3,6,7,8,18,19,20] rfl (λ K L' w'=>∃ (dp2:List Nat),Weak K L'/\Sat w (s8.U [(1,cL dv 3 (aa .i64) (dp2))]) w'/\(dp2.length=c.nd.length)/\((∀ (q:Nat) d,dp2[q]? =some d->q≠k->d<=q+1/\(k<=q->d=0))/\∀ d,dp2[k]? =some d->d<=k)) ?_ ?_
  ·refine .h<| .ld 1 s8 2 rfl<| .e rfl (.geq rfl rfl)<| .nil<| .ae rfl (λ c3=> ?_) λ c3=> ?_
   ·refine .seq ?_
    obtain ⟨y,hy⟩:∃ y,c.nd[x.p.toNat]? =some y:=⟨_,py (by omega)⟩
    have hyo:=(hxp.resolve_left (by omega)).2.2 y (by rw [show k-1=x.p.toNat by omega];exact hy)
    obtain ⟨d,hd⟩:∃ d,dp[x.p.toNat]? =some d:=⟨_,py (by omega)⟩
    have hdd:=(hdp _ d hd).1
    refine .region<| .ld 2 s8 2 rfl<| .e rfl (.j4 (j:=x.p.toNat) (E:=bE) iE rfl (fN (z:=x.p) (n:=x.p.toNat) (by omega)) (hr.n.ext s8.ext) (by omega))<| .lg 0 (hr.n.ext s8.ext) hy rfl<| .al 0 s8 rfl λ b3 _ s9 _ _=> .sa 0 s9 3 rfl ((bE).one _) λ _ s10 _=> .nil<| .seq<| .seq<| .bN 82 (((x.b:Int)<(y.b:Int))\/((y.e:Int)<(x.e:Int))) ?_ ?_
    ·refine .ld 1 s10 2 rfl<| .ld 1 s10 3 rfl<| .e rfl (.lss rfl rfl)<| .z 1 rfl<| .B 76 rfl (λ g3=> ?_) λ g3=> ?_
     ·refine .M rfl (by simp [g3])
     refine .ld 1 s10 2 rfl<| .ld 1 s10 3 rfl<| .a 0 rfl (.gtr rfl rfl)<| .M rfl (by simp [g3])
    refine .aj rfl (IN (by omega))<| .skip<| .region<| .ld 4 s10 2 rfl<| .e rfl (.j4 (j:=x.p.toNat) (E:=aa .i64) aQ rfl (fN (z:=x.p) (n:=x.p.toNat) (by omega)) (s10.ah 1 rfl) (by omega))<| .le 0 (s10.ah 1 rfl) hd rfl<| .ix 0 (s10.ah 1 rfl) rfl<| .f rfl (.cH (a:=d) 1 cQ s10 rfl rfl rfl rfl (by first|omega|(rw [PJ];omega)) λ _ s11 _=> ?_)
    have s11:=s11.nn
    refine .nil ?_
    exact ⟨dp.set k d,(wk rfl),s11.pk [0,1,2],by rw [PJ];exact hdl,Ge hdp (by omega)⟩
   refine .skip ?_
   exact ⟨dp,(wk rfl),s8.pk [0,1,2],hdl,⟨λ q d h _=>hdp q d h,λ d h=>by have:=(hdp k d h).2 (KB _);omega⟩⟩
  rintro L' w12 ⟨dp2,hw1,s14,hdl2,hdp2⟩
  refine .weaken _ hw1<| .seq<| .h<| .a 1 rfl (.sub (b:=(1:Int)) rfl rfl (by unfold aY;omega))<| .Z rfl<| .block<| .lq [0,1,3,6,7,8,18,19,20] rfl (α:=Nat) (λ m=>[(11,(.int .i64 ((((m:Nat):Int)-1))))]) (λ m w'=>Sat w s14.L w'/\(m<=k)) (λ m=>m) k ⟨s14,KB _⟩ ?_
  rintro m w13 ⟨s15,hmk⟩
  refine .seq<| .h<| .a 1 rfl (.geq rfl rfl)<| .nil<| .ae rfl (λ c4=> ?_) λ c4=> ?_
  ·refine .skip<| .seq<| .block<| .seq ?_
   obtain ⟨y,hy⟩:∃ y,c.nd[m-1]? =some y:=⟨_,py (by omega)⟩
   refine .dk [0,1,2] s15 rfl (pl [0,1,2,3,4,5,6,7] .fin) λ s16 S1=> .z 2 S1 rfl<| .e rfl (λ _ s=> .j4 (j:=(m-1)) (E:=bE) iE rfl (fN (z:=(((m:Nat):Int)-1)) (n:=(m-1)) (by omega)) (hr.n.ext s.ext) (by omega)) S1<| .fl 0 S1 (hr.n.ext ·.ext) rfl<| .lf 0 S1 (hr.n.ext ·.ext) hy rfl<| .ld 1 S1 2 rfl<| .e rfl (λ _ s=> .eql rfl rfl) S1<| .fin<| .ae rfl (λ c5=> ?_) λ c5=> ?_
   ·refine .seq<| .seq<| .dk [0,1,2] s16 rfl (pl [0,1,2,3,4,5,6,7] .fin) λ s17 S2=> .ld 1 S2 2 rfl<| .z 2 S2 rfl<| .e rfl (λ _ s=> .j4 (j:=(m-1)) (E:=bE) iE rfl (fN (z:=(((m:Nat):Int)-1)) (n:=(m-1)) (by omega)) (hr.n.ext s.ext) (by omega)) S2<| .fl 0 S2 (hr.n.ext ·.ext) rfl<| .lf 0 S2 (hr.n.ext ·.ext) hy rfl<| .e rfl (λ _ s=> .lss rfl rfl) S2<| .fin<| .aj rfl (IN (λ h=>by have:=ho.nd.sib (m-1) k x y hy hx (by omega) (by omega);omega))<| .skip<| .L6 rfl<| .seq ?_
    obtain ⟨d,hd⟩:∃ d,dp2[k]? =some d:=⟨_,py (by omega)⟩
    have hd2:(dp2.set k (d+1))[k]? =some (d+1):=Qo (by omega)
    have hdk:=hdp2.2 d hd
    refine .region<| .ix 2 (s17.ah 1 rfl) rfl<| .le 0 (s17.ah 1 rfl) hd rfl<| .ix 1 (s17.ah 1 rfl) rfl<| .f rfl (.cH (a:=(d+1)) 1 cQ s17 rfl rfl rfl rfl (by first|omega|(rw [PJ];omega)) λ _ s18 _=> ?_)
    refine .nil<| .h<| .ix 2 (s18.ah 1 rfl) rfl (hj:=by rw [PJ];omega)<| .le 0 (s18.ah 1 rfl) hd2 rfl<| .Z rfl<| .aj rfl (IN (by omega))<| .skip<| .U rfl ?_
    exact aT (k+1,dv,dp2.set k (d+1)) ⟨s18.pk [0,1],by rw [PJ];exact hdl2,yi hdp2 (by omega)⟩
   refine .skip<| .region<| .a 1 rfl (.sub (b:=(1:Int)) rfl rfl (by unfold aY;omega))<| .Z rfl ?_
   exact ⟨m-1,⟨If some (If (Value.int .i64) (by omega)),rfl,rfl,rfl,rfl,rfl,rfl,rfl,rfl,rfl,trivial⟩,⟨s16,by omega⟩,by omega⟩
  refine .ao<| .seq ?_
  obtain ⟨d,hd⟩:∃ d,dp2[k]? =some d:=⟨_,py (by omega)⟩
  have hd2:(dp2.set k (d+1))[k]? =some (d+1):=Qo (by omega)
  have hdk:=hdp2.2 d hd
  refine .region<| .ix 2 (s15.ah 1 rfl) rfl<| .le 0 (s15.ah 1 rfl) hd rfl<| .ix 1 (s15.ah 1 rfl) rfl<| .f rfl (.cH (a:=(d+1)) 1 cQ s15 rfl rfl rfl rfl (by first|omega|(rw [PJ];omega)) λ _ s20 _=> ?_)
  refine .nil<| .h<| .ix 2 (s20.ah 1 rfl) rfl (hj:=by rw [PJ];omega)<| .le 0 (s20.ah 1 rfl) hd2 rfl<| .Z rfl<| .aj rfl (IN (by omega))<| .skip<| .U rfl ?_
  exact aT (k+1,dv,dp2.set k (d+1)) ⟨s20.pk [0,1],by rw [PJ];exact hdl2,yi hdp2 (by omega)⟩
 refine .ao<| .Z rfl<| .cj rfl rfl rfl ?_
 exact ⟨rfl,s3.pk []⟩
theorem ER (vh vl:Value) (hd:List Int) (rl:List ByteArray) (w:World) (hv:RdL w vh (Kw.encI .i64) hd) (hw:RdL w vl ax rl) (hl:hd.length<=1000) (he:hd.length=rl.length) (hb:∃ i:Nat,(∃ h,hd[i]? =some h/\h≠-1)\/∃ s,rl[i]? =some s/\s≠ByteArray.empty):
  CallsV prog 138 [vh,vl] w λ r w'=>r= .bool false/\Sat w [] w':=by
 refine cg func138 rfl λ hs0=> .Z rfl<| .seq<| .h<| .ln 1 (hv.ext hs0.ext) rfl<| .Z rfl<| .block<| .lq [0,1,7] rfl (α:=Nat) (λ k=>[(8,(.int .i64 k))]) (λ k w'=>Sat w [] w'/\(∀ (j:Nat) t,j<k->hd[j]? =some t->t= -1/\rl[j]? =some (ByteArray.mk #[]))) (λ k=>hd.length-k) 0 ⟨hs0,λ j t h=>absurd h (by omega)⟩ ?_
 rintro k w1 ⟨s1,hno⟩
 refine .Z rfl<| .seq<| .ae rfl (λ c1=> ?_) λ c1=> ?_
 ·refine .skip<| .seq<| .block<| .seq ?_
  obtain ⟨x,hx⟩:∃ x,(hd)[k]? =some x:=⟨_,py c1⟩
  obtain ⟨s,hs9⟩:∃ s,rl[k]? =some s:=⟨_,py (by omega)⟩
  refine .U rfl<| .seq<| .bN 22 (((x:Int)≠(-1:Int))\/(s≠(ByteArray.mk #[]))) ?_ ?_
  ·refine .ix 2 (hv.ext s1.ext) rfl<| .le 0 (hv.ext s1.ext) hx rfl<| .e rfl (.neq rfl rfl)<| .z 1 rfl<| .B 16 rfl (λ g1=> ?_) λ g1=> ?_
   ·refine .M rfl (by simp [g1])
   refine .ix 2 (hw.ext s1.ext) rfl<| .le 0 (hw.ext s1.ext) hs9 rfl<| .a 0 rfl (.ed rfl rfl)<| .M rfl (by simp [g1])
  refine .ae rfl (λ c2=> ?_) λ c2=> ?_
  ·refine .Z rfl<| .aC rfl rfl ?_
   exact ⟨rfl,s1.pk []⟩
  refine .skip<| .U rfl ?_
  exact aT (k+1) ⟨s1,iT hno hx ⟨by omega,by rw [hs9];exact If some (Qf.1 λ h=>c2 (.inr h))⟩⟩
 refine .ao<| .Z rfl<| .aC rfl rfl ?_
 have s3:=s1.pk []
 exact (Nu he hno (by omega) hb).elim
theorem qI (c:Co) (p:Int) (w:World) (hr:RdC w c) (hl:c.tx.length<=64) (hin:∃ t∈c.tx,t.b<=p/\p<t.e):
  CallsV prog 139 [(.agg #[c.va,c.vt,c.vx,c.vr,c.vn,c.vh,c.vl]),(.int .i64 (p))] w λ r w'=>∃ (i:Nat) (t:Iv),r= .int .i64 (i:Int)/\c.tx[i]? =some t/\t.b<=p/\p<t.e/\Sat w [] w':=by
 have hs0:=Sat.start w
 refine ai func139 rfl rfl ?_
 refine .h<| .bx 0 hs0 rfl λ b1 _ s1 _ _=> .Z rfl<| .seq<| .h<| .ld 1 s1 0 rfl<| .ln 0 (hr.x.ext s1.ext) rfl<| .Z rfl<| .block<| .lq [0,1,2,8,9] rfl (α:=Nat) (λ k=>[(10,(.int .i64 k))]) (λ k w'=>Sat w s1.L w'/\(∀ (j:Nat) t,j<k->c.tx[j]? =some t->¬ (t.b<=p/\p<t.e))) (λ k=>c.tx.length-k) 0 ⟨s1,λ j t h=>absurd h (by omega)⟩ ?_
 rintro k w2 ⟨s2,hno⟩
 refine .Z rfl<| .seq<| .ae rfl (λ c1=> ?_) λ c1=> ?_
 ·refine .skip<| .seq<| .block<| .seq ?_
  obtain ⟨x,hx⟩:∃ x,(c.tx)[k]? =some x:=⟨_,py c1⟩
  refine .region<| .ix 1 (hr.x.ext s2.ext) rfl<| .lg 0 (hr.x.ext s2.ext) hx rfl<| .al 0 s2 rfl λ b2 _ s3 _ _=> .sa 1 s3 1 rfl ((aG).one _) λ _ s4 _=> ?_
  have s4:=s4.nn
  refine .nil<| .seq<| .bN 24 (((x.b:Int)<=(p:Int))/\((p:Int)<(x.e:Int))) ?_ ?_
  ·refine .ld 1 s4 1 rfl<| .a 1 rfl (.leq rfl rfl)<| .z 1 rfl<| .B 19 rfl (λ g1=> ?_) λ g1=> ?_
   ·refine .ld 2 s4 1 rfl<| .a 0 rfl (.lss rfl rfl)<| .M rfl (by simp [g1])
   refine .M rfl (by simp [g1])
  refine .ae rfl (λ c2=> ?_) λ c2=> ?_
  ·refine .Z rfl<| .aC rfl rfl ?_
   exact ⟨k,x,rfl,hx,c2.1,c2.2,s4.pk []⟩
  refine .skip<| .U rfl ?_
  exact aT (k+1) ⟨s4.pk [0],iT hno hx c2⟩
 refine .ao<| .Z rfl<| .aC rfl rfl ?_
 have s7:=s2.pk []
 obtain ⟨t,ht,h1⟩:=hin
 obtain ⟨j,hj⟩:=Qh ht
 exact absurd h1 (hno j t (by have:=(AT.1 hj).1;omega) hj)
theorem D1 (v:Value) (hd:List Int) (n i:Nat) (w:World) (hv:RdL w v (Kw.encI .i64) hd) (hl:hd.length<=1000) (hf:HdF n hd) (hi:i<hd.length):
  CallsV prog 140 [v,(.int .i64 i)] w λ r w'=>r= .bool false/\Sat w [] w':=by
 obtain ⟨rank,hrk⟩:=hf.rk
 have hs0:=Sat.start w
 refine ai func140 rfl rfl ?_
 refine .Z rfl<| .Z rfl<| .seq<| .h<| .ln 1 (hv.ext hs0.ext) rfl<| .Z rfl<| .block<| .lq [0,1,8] rfl (α:=Nat×Int) (λ (k,z)=>[(5,(.int .i64 (z))),(9,(.int .i64 k))]) (λ (k,z) w'=>Sat w [] w'/\(0<=z/\z<(hd.length:Int))/\(rank z.toNat<=rank i)) (λ (k,z)=>hd.length-k) (0,(i:Int)) ⟨hs0,by omega,by rw [Rq];exact KB _⟩ ?_
 rintro ⟨k,z⟩ w1 ⟨s1,hz,hrz⟩
 refine .Z rfl<| .seq<| .ae rfl (λ c1=> ?_) λ c1=> ?_
 ·refine .skip<| .seq<| .block<| .seq ?_
  obtain ⟨x,hx⟩:∃ x,hd[z.toNat]? =some x:=⟨_,py (by omega)⟩
  refine .region<| .a 2 rfl (.j4 (j:=z.toNat) (E:=Kw.encI .i64) aQ rfl (fN (z:=z) (n:=z.toNat) (by omega)) (hv.ext s1.ext) (by omega))<| .le 0 (hv.ext s1.ext) hx rfl<| .Z rfl<| .seq<| .seq<| .bN 22 (((x:Int)<(0:Int))\/(((hd.length:Nat):Int)<=(x:Int))) ?_ ?_
  ·refine .a 1 rfl (.lss rfl rfl)<| .z 1 rfl<| .B 17 rfl (λ g1=> ?_) λ g1=> ?_
   ·refine .M rfl (by simp [g1])
   refine .ln 2 (hv.ext s1.ext) rfl<| .a 0 rfl (.geq rfl rfl)<| .M rfl (by simp [g1])
  refine .ae rfl (λ c2=> ?_) λ c2=> ?_
  ·refine .Z rfl<| .aC rfl rfl ?_
   exact ⟨rfl,s1.pk []⟩
  refine .skip<| .h<| .a 2 rfl (.eql rfl rfl)<| .nil<| .aj rfl (IN (λ h=>by have h1:=hrk _ x hx (by omega);rw [show x.toNat=i by omega] at h1;omega))<| .skip<| .U rfl ?_
  exact aT (k+1,x) ⟨s1,by omega,by have:=hrk _ x hx (by omega);omega⟩
 refine .ao<| .Z rfl<| .aC rfl rfl ?_
 exact ⟨rfl,s1.pk []⟩
theorem D2 (c:Co) (n:Nat) (w:World) (hr:RdC w c) (ho:OkC n c) (hn:n<=3):
  CallsV prog 90 [(.agg #[c.va,c.vt,c.vx,c.vr,c.vn,c.vh,c.vl])] w λ r w'=>r= .tuple #[.int .i64 ((0:Nat):Int),.int .i64 ((0:Nat):Int)]/\Sat w [] w':=by
 have htk:=ho.ntk
 have htx:=ho.ntx
 have hrg:=ho.nrg
 have hnd:=ho.nnd
 have hat:=ho.at_.2
 have hhl:=ho.o6.1
 have hhm:c.hd.length<=36:=by rcases QF c.hd.length with q|q;omega;have:=(ho.o6.2 q).len.1;omega
 have hs0:=Sat.start w
 refine ai func90 rfl rfl ?_
 refine .h<| .bx 0 hs0 rfl λ b1 _ s1 _ _=> .Z rfl<| .h<| .ld 1 s1 0 rfl<| .ln 0 (hr.h.ext s1.ext) rfl<| .Z rfl<| .seq<| .seq<| .bN 25 ((c.hd.length≠c.rl.length)\/((c.hd.length≠0)/\(c.hd.length≠c.tk.length))) ?_ ?_
 ·refine .ld 2 s1 0 rfl<| .ln 0 (hr.l.ext s1.ext) rfl<| .z 2 rfl<| .B 15 rfl (λ g1=> ?_) λ g1=> ?_
  ·refine .M rfl (by simp [g1])
  refine .z 3 rfl<| .B 18 rfl (λ g2=> ?_) λ g2=> ?_
  ·refine .ld 2 s1 0 rfl<| .ln 0 (hr.t.ext s1.ext) rfl<| .M rfl (by simp [g1,g2])
  refine .M rfl (by simp [g1,g2])
 refine .aj rfl (IN (λ h=>h.elim (λ h=>h hhl) (λ h=>h.2 (ho.o6.2 (by omega)).len.1)))<| .skip<| .seq<| .seq<| .md [0,1,2,3,4] rfl (λ K L' w'=>Weak ([(34,(.bool (decide ((0<c.hd.length)/\(False)))))]++K) L'/\Sat w s1.L w') ?_ ?_
 ·refine .region<| .z 3 rfl<| .B 28 rfl (λ g3=> ?_) λ g3=> ?_
  ·refine .ld 1 s1 0 rfl<| .ld 1 s1 0 rfl<| .cp 0 s1 (ER _ _ (c.hd) (c.rl) _ (hr.h.ext s1.ext) (hr.l.ext s1.ext) (by omega) hhl (ho.o6.2 (by omega)).bare) rfl λ _ s2=> .Z rfl ?_
   exact ⟨⟨If some (If Value.bool (by simp [g3])),rfl,rfl,rfl,rfl,rfl,trivial⟩,s2⟩
  refine .Z rfl ?_
  exact ⟨⟨If some (If Value.bool (by simp [g3])),rfl,rfl,rfl,rfl,rfl,trivial⟩,s1⟩
 rintro L' w3 ⟨hw1,s3⟩
 refine .weaken _ hw1<| .aj rfl (IN (λ h=>h.2))<| .skip<| .seq<| .h<| .ld 1 s3 0 rfl<| .ln 0 (hr.h.ext s3.ext) rfl<| .Z rfl<| .block<| .lq [0,1,4,36,37] rfl (α:=Nat) (λ k=>[(38,(.int .i64 k))]) (λ k w'=>Sat w s3.L w') (λ k=>c.hd.length-k) 0 s3 ?_
 rintro k w4 s4
 refine .Z rfl<| .seq<| .ae rfl (λ c1=> ?_) λ c1=> ?_
 ·refine .skip<| .seq<| .block<| .seq ?_
  obtain ⟨x,hx⟩:∃ x,(c.hd)[k]? =some x:=⟨_,py c1⟩
  have hhd:=ho.o6.2 (by omega)
  have hkl:=c1
  obtain ⟨s,hs9⟩:∃ s,c.rl[k]? =some s:=⟨_,py (by have:=hhd.len;omega)⟩
  refine .region<| .ix 1 (hr.h.ext s4.ext) rfl<| .le 0 (hr.h.ext s4.ext) hx rfl<| .Z rfl<| .seq<| .seq<| .wI (λ L' w'=>Weak [(0,(.agg #[c.va,c.vt,c.vx,c.vr,c.vn,c.vh,c.vl])),(1,(.pointer (some ⟨b1,0,none⟩))),(4,(.int .i64 c.hd.length)),(5,(.int .i64 k)),(6,(.int .i64 (x))),(36,c.vh),(37,(.int .i64 c.hd.length)),(38,(.int .i64 k)),(62,(.bool false))] L'/\Sat w [aq b1 30 [c.va,c.vt,c.vx,c.vr,c.vn,c.vh,c.vl]] w') ?_ ?_
  ·rcases hhd.el k x hx with hx1|⟨t,ht,ht1,ht2,ht3,ht4⟩
   ·refine .dk [0] s4 rfl (pl [0,1,2,3,4,5,6,7,8,9,10,11,12,14,15,1013,1016,17,18,19] .fin) λ s5 S1=> .z 1 S1 rfl<| .e rfl (λ _ hS=> .neq rfl rfl) S1<| .z 1 S1 rfl<| .Gf 45 rfl (IN (λ h=>h hx1))<| .Z S1 rfl ?_
    exact ⟨(wk rfl),s5⟩
   refine .dk [0] s4 rfl (pl [0,1,2,3,4,5,6,7,8,9,10,11,12,14,15,1013,1016,17,18,19] .fin) λ s6 S2=> .z 1 S2 rfl<| .e rfl (λ _ hS=> .neq rfl rfl) S2<| .z 1 S2 rfl<| .Gt 45 rfl (PM (by have:=(ho.tx.nm t ht).2.2;omega))<| .a 1 S2 rfl (λ _ hS=> .lss rfl rfl)<| .z 1 S2 rfl<| .Gf 48 rfl (IN (by have:=(ho.tx.nm t ht).2.2;omega))<| .a 2 S2 rfl (λ _ hS=> .geq rfl rfl)<| .z 2 S2 rfl<| .Gf 53 rfl (IN (by have:=(ho.tx.nm t ht).2.2;have:=hhd.len.1;omega))<| .a 0 S2 rfl (λ _ hS=> .fH gP rfl hS (i:=0) rfl rfl)<| .a 1 S2 rfl (λ _ hS=> .fH gP rfl hS (i:=0) rfl rfl)<| .c 1 S2 (qI c (x) _ (hr.ext s6.ext) (by omega) (⟨t,ht,by omega,by omega⟩)) rfl λ r2 _ h2=> ?_
   obtain ⟨ti1,tt1,rfl,htt1,htt1b,htt1e,p2⟩:=h2
   have s7:=s6.az p2
   have htt1l:=(AT.1 htt1).1
   have S3:=s7.pk [0]
   refine ⟨S3,?_⟩
   refine .c 0 S3 (qI c ((k:Nat):Int) _ (hr.ext s7.ext) (by omega) (⟨t,ht,by omega,by omega⟩)) rfl λ r3 _ h3=> ?_
   obtain ⟨ti2,tt2,rfl,htt2,htt2b,htt2e,p3⟩:=h3
   have s8:=(s7.az p3).nn
   have htt2l:=(AT.1 htt2).1
   have S4:=s8.pk [0]
   refine ⟨S4,?_⟩
   refine .Z S4 rfl ?_
   exact ⟨⟨rfl,rfl,rfl,rfl,rfl,rfl,rfl,rfl,If some (If Value.bool (IN (λ h=>h (Js ho.tx ht htt1 htt2 ⟨by omega,by omega⟩ ⟨by omega,by omega⟩ ⟨htt1b,htt1e⟩ ⟨htt2b,htt2e⟩)))),trivial⟩,s8⟩
  rintro L' w7 ⟨hw2,s9⟩
  refine .weaken _ hw2<| .aj rfl (rfl)<| .skip<| .seq<| .seq<| .md [0,1,4,5,6,36,37,38] rfl (λ K L' w'=>Weak ([(78,(.bool (decide ((s≠(ByteArray.mk #[]))/\((!(bC s))=true)))))]++K) L'/\Sat w s9.L w') ?_ ?_
  ·refine .region<| .ld 1 s9 0 rfl<| .ix 1 (hr.l.ext s9.ext) rfl<| .le 0 (hr.l.ext s9.ext) hs9 rfl<| .e rfl (.ed rfl rfl)<| .z 1 rfl<| .B 70 rfl (λ g4=> ?_) λ g4=> ?_
   ·refine .ld 1 s9 0 rfl<| .ix 1 (hr.l.ext s9.ext) rfl<| .le 0 (hr.l.ext s9.ext) hs9 rfl<| .cp 0 s9 (dO s _) rfl λ _ s10=> .a 0 rfl (.cO rfl)<| .Z rfl ?_
    exact ⟨⟨If some (If Value.bool (by simp [g4])),rfl,rfl,rfl,rfl,rfl,rfl,rfl,rfl,trivial⟩,s10⟩
   refine .Z rfl ?_
   exact ⟨⟨If some (If Value.bool (by simp [g4])),rfl,rfl,rfl,rfl,rfl,rfl,rfl,rfl,trivial⟩,s9⟩
  rintro L' w9 ⟨hw3,s11⟩
  refine .weaken _ hw3<| .aj rfl (IN (λ h=>(hhd.nm s (a7 hs9)).elim (λ e=>h.1 e) (λ e=>by have:=h.2;simp [e] at this)))<| .skip<| .h<| .ld 1 s11 0 rfl<| .cp 1 s11 (D1 _ (c.hd) _ (k) _ (hr.h.ext s11.ext) (by omega) ho.PA hkl) rfl λ _ s12=> .nil<| .aj rfl (rfl)<| .skip<| .U rfl ?_
  exact aT (k+1) s12
 refine .ao<| .Z rfl<| .cj rfl rfl rfl ?_
 exact ⟨rfl,s4.pk []⟩
theorem mR (c:Co) (n:Nat) (w:World) (hr:RdC w c) (ho:OkC n c) (hn:n<=3):
  CallsV prog 34 [(.agg #[c.va,c.vt,c.vx,c.vr,c.vn,c.vh,c.vl])] w λ r w'=>r= .tuple #[.int .i64 ((0:Nat):Int),.int .i64 ((0:Nat):Int),.int .i64 ((0:Nat):Int)]/\Sat w [] w':=by
 refine cg func34 rfl λ hs0=> .h<| .bx 0 hs0 rfl λ b1 _ s1 _ _=> .Z rfl<| .seq<| .h<| .ld 1 s1 0 rfl<| .cp 0 s1 (CY _ (c.at_) _ (hr.a.ext s1.ext) ho.at_) rfl λ _ s2=> .Z rfl<| .Z rfl<| .aj rfl (rfl)<| .skip<| .seq<| .h<| .lo 0 s2 0 rfl<| .cq 0 s2 (zN c n _ (hr.ext s2.ext) ho hn) rfl λ _ s3=> .Z rfl<| .Z rfl<| .aj rfl (rfl)<| .skip<| .seq<| .h<| .lo 0 s3 0 rfl<| .cp 0 s3 (CZ c n _ (hr.ext s3.ext) ho hn) rfl λ _ s4=> .Z rfl<| .Z rfl<| .aj rfl (rfl)<| .skip<| .seq<| .h<| .lo 0 s4 0 rfl<| .cp 0 s4 (xv c n _ (hr.ext s4.ext) ho hn) rfl λ _ s5=> .Z rfl<| .Z rfl<| .aj rfl (rfl)<| .skip<| .seq<| .h<| .ld 1 s5 0 rfl<| .lo 0 s5 0 rfl<| .cq 0 s5 (D0 c n _ (hr.ext s5.ext) ho hn) rfl λ _ s6=> .Z rfl<| .seq<| .trim [0,1,2,3,4,5,6,7,8,9,10,11,12,13,14] rfl<| .U rfl<| .aj rfl (rfl)<| .skip<| .seq<| .h<| .lo 0 s6 0 rfl<| .cp 0 s6 (D2 c n _ (hr.ext s6.ext) ho hn) rfl λ _ s7=> .Z rfl<| .Z rfl<| .aj rfl (rfl)<| .skip<| .Z rfl<| .ret ?_
 show aL _ _ _ _ _ _
 refine ie rfl rfl rfl rfl ?_
 exact ⟨rfl,s7.pk []⟩
theorem qJ (c:Co) (n:Nat) (w:World) (hr:RdC w c) (ho:OkC n c) (hn:n<=3):
  CallsV prog 67 [(.agg #[c.va,c.vt,c.vx,c.vr,c.vn,c.vh,c.vl])] w λ r w'=>r= .bool true/\Sat w [] w':=by
 refine cg func67 rfl λ hs0=> .h<| .bx 0 hs0 rfl λ b1 _ s1 _ _=> .Z rfl<| .h<| .lo 0 s1 0 rfl<| .cp 0 s1 (mR c n _ (hr.ext s1.ext) ho hn) rfl λ _ s2=> .Z rfl<| .Z rfl<| .aC rfl rfl ?_
 exact ⟨rfl,s2.pk []⟩
set_option maxHeartbeats 2000000 in
theorem D3 (c:Co) (n:Nat) (w:World) (hr:RdC w c) (ho:OkC n c) (hn:n<=3):
  CallsV prog 12 [(.agg #[c.va,c.vt,c.vx,c.vr,c.vn,c.vh,c.vl])] w λ r w'=>r= .tuple #[.string (strOf (aM (iR lexB bW c.v))),.int .i64 ((0:Nat):Int)]/\Sat w [] w':=by
 have htk:=ho.ntk
 have htx:=ho.ntx
 have hrg:=ho.nrg
 have hnd:=ho.nnd
 have hat:=ho.at_.2
 have hhl:=ho.HE hn
 have hlx:=ho.P8 (Q7 hn (by decide))
 have hu1:=aD c.at_.length
 have hu2:=aD c.tx.length
 have hu3:=aD c.rg.length
 have hu4:=aD c.nd.length
 have hu5:=aD c.hd.length
 have hs0:=Sat.start w
 refine ai func12 rfl rfl ?_
 refine .h<| .bx 0 hs0 rfl λ b1 _ s1 _ _=> .Z rfl<| .seq<| .h<| .lo 0 s1 0 rfl<| .cp 0 s1 (mR c n _ (hr.ext s1.ext) ho hn) rfl λ _ s2=> .Z rfl<| .Z rfl<| .aj rfl (IN (λ h=>h rfl))<| .skip<| .seq<| .h<| .lo 0 s2 0 rfl<| .cq 0 s2 (EP c n _ (hr.ext s2.ext) ho hn) rfl λ _ s3=> .nil<| .aj rfl (rfl)<| .skip<| .h<| .f rfl (.gW (aa .u8) [67,83,49] ch rfl ⟨rfl,rfl,rfl,trivial⟩ rfl rfl rfl rfl (by decide) (by decide) s3 λ v1 _ s4 _=> ?_)
 refine .f rfl (.Cg 1 underlying45 underlying5 s4 rfl rfl (by decide) λ _ s5=> ?_)
 refine .ld 1 s5 0 rfl<| .ln 0 (hr.a.ext s5.ext) rfl<| .c 0 (eh _ ([67,83,49]) (c.at_.length) _ (s5.o3 1 rfl) (by omega) (by (try simp only [sp,KP,KY]);omega)) rfl λ r3 _ h3=> ?_
 have s6:=(s5.az h3).nn
 refine .Z rfl<| .seq<| .h<| .ld 1 s6 0 rfl<| .ln 0 (hr.a.ext s6.ext) rfl<| .Z rfl<| .block ?_
 have s7:=s6.pk [0,2]
 refine .lq [0,1,2,3,6,36] rfl (α:=Nat×Value×List Nat) (λ (k,sv,bs)=>[(7,sv),(37,(.int .i64 k))]) (λ (k,sv,bs) w'=>Sat w (s7.U [(1,cL sv 5 (aa .u8) (bs))]) w'/\(k<=c.at_.length)/\(bs=[67,83,49]++uv c.at_.length++eM lexB bW c.v.at_ c.v.tk k)/\(bs.length<=13+5000000*k)) (λ (k,sv,bs)=>c.at_.length-k) (0,r3,[67,83,49]++uv (c.at_.length)) ⟨s7,KD _,by simp [eM],by rw [sp];simp only [KP,KY];omega⟩ ?_
 rintro ⟨k,sv,bs⟩ w7 ⟨s8,hk,hbs,hbl⟩
 refine .Z rfl<| .seq<| .ae rfl (λ c1=> ?_) λ c1=> ?_
 ·refine .skip<| .seq<| .block<| .seq ?_
  obtain ⟨x,hx⟩:∃ x,(c.at_)[k]? =some x:=⟨_,py c1⟩
  have hcl:=vg ho hn hx
  refine .U rfl<| .region<| .lo 1 s8 0 rfl<| .c 1 (EO _ (bs) c n k x _ (s8.ah 1 rfl) (hr.ext s8.ext) ho hn hx (by omega)) rfl λ r4 _ h4=> ?_
  have s9:=s8.az h4
  refine .Z rfl<| .U rfl ?_
  exact aT (k+1,r4,bs++jJ lexB bW x (eK c k)) ⟨s9.pk [0,2],by omega,by rw [tW hx,hbs];simp only [LW]<;>rfl,by rw [sp];omega⟩
 refine .ao<| .h<| .ld 2 s8 0 rfl<| .ln 0 (hr.x.ext s8.ext) rfl<| .c 0 (eh _ (bs) (c.tx.length) _ (s8.ah 1 rfl) (by omega) (by (try simp only [sp,KP,KY]);omega)) rfl λ r5 _ h5=> ?_
 have s11:=s8.az h5
 refine .Z rfl<| .seq<| .h<| .ld 1 s11 0 rfl<| .ln 0 (hr.x.ext s11.ext) rfl<| .Z rfl<| .block ?_
 have s12:=s11.pk [0,2]
 refine .lq [0,1,2,3,6,36,51,52] rfl (α:=Nat×Value×List Nat) (λ (k,sv,bs)=>[(7,sv),(53,(.int .i64 k))]) (λ (k,sv,bs) w'=>Sat w (s12.U [(1,cL sv 5 (aa .u8) (bs))]) w'/\(k<=c.tx.length)/\(bs=[67,83,49]++uv c.at_.length++eM lexB bW c.v.at_ c.v.tk c.at_.length++uv c.tx.length++(c.tx.take k).flatMap (λ x=>gS x.v))/\(bs.length<=40000100+2000*k)) (λ (k,sv,bs)=>c.tx.length-k) (0,r5,bs++uv (c.tx.length)) ⟨s12,KD _,by rw [hbs,show k=c.at_.length by omega];simp,by rw [sp];omega⟩ ?_
 rintro ⟨k,sv,bs⟩ w10 ⟨s13,hk,hbs,hbl⟩
 refine .Z rfl<| .seq<| .ae rfl (λ c2=> ?_) λ c2=> ?_
 ·refine .skip<| .seq<| .block<| .seq ?_
  obtain ⟨x,hx⟩:∃ x,(c.tx)[k]? =some x:=⟨_,py c2⟩
  have hxo:=ho.tx.nm x (a7 hx)
  have hns:=bk hxo.1
  have ht1:(gS x.v).length<=2000:=vH hns hxo.2.1
  have ht2:=bK x.nm
  have ht3:=aD (x.e-x.b).toNat
  have ht4:=kW hxo.2.1
  refine .region<| .ix 0 (hr.x.ext s13.ext) rfl<| .lg 0 (hr.x.ext s13.ext) hx rfl<| .al 0 s13 rfl λ b2 _ s14 _ _=> .sa 0 s14 2 rfl ((aG).one _) λ _ s15 _=> .nil<| .dk [0,1,2] s15 rfl (pl [0,1,2,4,5,6,7,8,10,11,1003,1009,1012,13] .fin) λ s16 S1=> .ld 2 S1 2 rfl<| .ld 1 S1 2 rfl<| .ld 1 S1 2 rfl<| .e rfl (λ _ q=> .sub rfl rfl (by unfold aY;omega)) S1<| .ld 1 S1 2 rfl<| .c 0 S1 (fo _ (bs) x.nm _ (s16.ah 1 rfl) (by (try simp only [sp,KP,KY]);omega)) rfl λ r6 _ h6=> ?_
  have s17:=(s16.az h6).nn
  have S2:=s17.pk [0,1,2]
  refine ⟨S2,?_⟩
  refine .c 0 S2 (fb _ (bs++cr x.nm) ((x.e-x.b)) _ (s17.ah 3 rfl) (by omega) (by (try simp only [sp,KP,KY]);omega)) rfl λ r7 _ h7=> ?_
  have s18:=s17.az h7
  have S3:=s18.pk [0,1,2]
  refine ⟨S3,?_⟩
  refine .c 0 S3 (Ba _ (bs++cr x.nm++uv ((x.e-x.b)).toNat) _ (x.ps) _ (s18.ah 4 rfl) ((hr.xr _ (a7 hx)).ext s18.ext) (hxo.2.1) (by (try simp only [sp,KP,KY]);omega)) rfl λ r8 _ h8=> ?_
  have s19:=s18.az h8
  have S4:=s19.pk [0,1,2]
  refine ⟨S4,?_⟩
  refine .Z S4 rfl<| .U rfl ?_
  exact aT (k+1,r8,bs++cr x.nm++uv ((x.e-x.b)).toNat++pw x.ps) ⟨s19.pk [0,5],by omega,by rw [ij hx,hbs];simp only [LW]<;>rfl,by have e:(gS x.v).length=(cr x.nm++(uv (x.e-x.b).toNat++pw x.ps)).length:=rfl;simp only [sp] at e⊢;omega⟩
 refine .ao<| .h<| .ld 2 s13 0 rfl<| .ln 0 (hr.r.ext s13.ext) rfl<| .c 0 (eh _ (bs) (c.rg.length) _ (s13.ah 1 rfl) (by omega) (by (try simp only [sp,KP,KY]);omega)) rfl λ r9 _ h9=> ?_
 have s21:=s13.az h9
 refine .Z rfl<| .Z rfl<| .seq<| .h<| .ld 1 s21 0 rfl<| .ln 0 (hr.r.ext s21.ext) rfl<| .Z rfl<| .block ?_
 have s22:=s21.pk [0,2]
 refine .lq [0,1,2,3,6,36,51,52,77,78] rfl (α:=Nat×Value×List Nat×Int) (λ (k,sv,bs,bf)=>[(7,sv),(11,(.int .i64 (bf))),(79,(.int .i64 k))]) (λ (k,sv,bs,bf) w'=>Sat w (s22.U [(1,cL sv 5 (aa .u8) (bs))]) w'/\(k<=c.rg.length)/\(bs=[67,83,49]++uv c.at_.length++eM lexB bW c.v.at_ c.v.tk c.at_.length++uv c.tx.length++c.tx.flatMap (λ x=>gS x.v)++uv c.rg.length++fw 0 ((c.rg.take k).map Iv.v))/\(bs.length<=40200200+2000*k)/\(bf=(Kx 0 ((c.rg.take k).map Iv.v)))/\(0<=bf)) (λ (k,sv,bs,bf)=>c.rg.length-k) (0,r9,bs++uv (c.rg.length),0) ⟨s22,KD _,by rw [hbs,PV (by omega)];simp [fw],by rw [sp];omega,rfl,Tn _⟩ ?_
 rintro ⟨k,sv,bs,bf⟩ w17 ⟨s23,hk,hbs,hbl,hbf,hb0⟩
 refine .Z rfl<| .seq<| .ae rfl (λ c3=> ?_) λ c3=> ?_
 ·refine .skip<| .seq<| .block<| .seq ?_
  obtain ⟨x,hx⟩:∃ x,(c.rg)[k]? =some x:=⟨_,py c3⟩
  have hxo:=ho.rg.el x (a7 hx)
  have hns:=bk hxo.1
  have hbd:=hxo.2.1.bd ho.tx
  have ht1:=λ bf=>vG (bf:=bf) (x:=x.v) hns hxo.2.2
  have ht2:=bK x.nm
  have ht3:=aD (x.e-x.b).toNat
  have ht4:=kW hxo.2.2
  have ht5:=aD (x.b-bf).toNat
  have hlb:bf<=x.b:=by rw [hbf,Sr];exact FR hlx.rc (by rw [show c.v.rg=c.rg.map Iv.v from rfl,PX,hx]<;>rfl)
  refine .region<| .ix 0 (hr.r.ext s23.ext) rfl<| .lg 0 (hr.r.ext s23.ext) hx rfl<| .al 0 s23 rfl λ b3 _ s24 _ _=> .sa 0 s24 2 rfl ((aG).one _) λ _ s25 _=> .nil<| .seq<| .dk [0,1,2] s25 rfl (pl [0,1,2,4,5,6,7,9,10,11,12,13,15,16,1003,1008,1014,1017,18] .fin) λ s26 S5=> .ld 2 S5 2 rfl<| .ld 1 S5 2 rfl<| .z 1 S5 rfl<| .e rfl (λ _ q=> .sub rfl rfl (by unfold aY;omega)) S5<| .ld 1 S5 2 rfl<| .ld 1 S5 2 rfl<| .e rfl (λ _ q=> .sub rfl rfl (by unfold aY;omega)) S5<| .ld 1 S5 2 rfl<| .c 0 S5 (fo _ (bs) x.nm _ (s26.ah 1 rfl) (by (try simp only [sp,KP,KY]);omega)) rfl λ r10 _ h10=> ?_
  have s27:=(s26.az h10).nn
  have S6:=s27.pk [0,1,2]
  refine ⟨S6,?_⟩
  refine .c 0 S6 (fb _ (bs++cr x.nm) ((x.b-bf)) _ (s27.ah 3 rfl) (by omega) (by (try simp only [sp,KP,KY]);omega)) rfl λ r11 _ h11=> ?_
  have s28:=s27.az h11
  have S7:=s28.pk [0,1,2]
  refine ⟨S7,?_⟩
  refine .c 0 S7 (fb _ (bs++cr x.nm++uv ((x.b-bf)).toNat) ((x.e-x.b)) _ (s28.ah 4 rfl) (by omega) (by (try simp only [sp,KP,KY]);omega)) rfl λ r12 _ h12=> ?_
  have s29:=s28.az h12
  have S8:=s29.pk [0,1,2]
  refine ⟨S8,?_⟩
  refine .c 0 S8 (Ba _ (bs++cr x.nm++uv ((x.b-bf)).toNat++uv ((x.e-x.b)).toNat) _ (x.ps) _ (s29.ah 5 rfl) ((hr.rr _ (a7 hx)).ext s29.ext) (hxo.2.2) (by (try simp only [sp,KP,KY]);omega)) rfl λ r13 _ h13=> ?_
  have s30:=(s29.az h13).nn
  have S9:=s30.pk [0,1,2]
  refine ⟨S9,?_⟩
  refine .Z S9 rfl<| .region<| .ld 1 s30 2 rfl<| .Z rfl<| .U rfl ?_
  exact aT (k+1,r13,bs++cr x.nm++uv ((x.b-bf)).toNat++uv ((x.e-x.b)).toNat++pw x.ps,x.b) ⟨s30.pk [0,6],by omega,by rw [(qd hx).1,hbs,<-hbf];simp only [LW];rfl,by have e:(Kv bf x.v).length=(cr x.nm++(uv (x.b-bf).toNat++(uv (x.e-x.b).toNat++pw x.ps))).length:=rfl;have:=ht1 bf;simp only [sp] at e⊢;omega,(qd hx).2.symm,by omega⟩
 refine .ao<| .h<| .ld 2 s23 0 rfl<| .ln 0 (hr.n.ext s23.ext) rfl<| .c 0 (eh _ (bs) (c.nd.length) _ (s23.ah 1 rfl) (by omega) (by (try simp only [sp,KP,KY]);omega)) rfl λ r14 _ h14=> ?_
 have s32:=s23.az h14
 refine .Z rfl<| .seq<| .h<| .ld 1 s32 0 rfl<| .ln 0 (hr.n.ext s32.ext) rfl<| .Z rfl<| .block ?_
 have s33:=s32.pk [0,2]
 refine .lq [0,1,2,3,6,11,36,51,52,77,78,110,111] rfl (α:=Nat×Value×List Nat) (λ (k,sv,bs)=>[(7,sv),(112,(.int .i64 k))]) (λ (k,sv,bs) w'=>Sat w (s33.U [(1,cL sv 5 (aa .u8) (bs))]) w'/\(k<=c.nd.length)/\(bs=[67,83,49]++uv c.at_.length++eM lexB bW c.v.at_ c.v.tk c.at_.length++uv c.tx.length++c.tx.flatMap (λ x=>gS x.v)++uv c.rg.length++fw 0 (c.rg.map Iv.v)++uv c.nd.length++(c.nd.take k).flatMap rH)/\(bs.length<=40300300+200*k)) (λ (k,sv,bs)=>c.nd.length-k) (0,r14,bs++uv (c.nd.length)) ⟨s33,KD _,by rw [hbs,PV (by omega)];simp,by rw [sp];omega⟩ ?_
 rintro ⟨k,sv,bs⟩ w25 ⟨s34,hk,hbs,hbl⟩
 refine .Z rfl<| .seq<| .ae rfl (λ c4=> ?_) λ c4=> ?_
 ·refine .skip<| .seq<| .block<| .seq ?_
  obtain ⟨x,hx⟩:∃ x,(c.nd)[k]? =some x:=⟨_,py c4⟩
  have hxo:=ho.nd.el x (a7 hx)
  have hxp:=ho.nd.par k x hx
  have hbd:=hxo.2.bd ho.tx
  have hns:=bk hxo.1
  have ht1:=bK x.nm
  have hu1:=aD (x.p+1).toNat
  have hu2:=aD x.b.toNat
  have hu3:=aD (x.e-x.b).toNat
  refine .region<| .ix 0 (hr.n.ext s34.ext) rfl<| .lg 0 (hr.n.ext s34.ext) hx rfl<| .al 0 s34 rfl λ b4 _ s35 _ _=> .sa 0 s35 2 rfl ((bE).one _) λ _ s36 _=> .nil<| .dk [0,1,2] s36 rfl (pl [0,1,2,4,5,6,8,9,11,12,13,14,15,1003,1007,1010,1016,17] .fin) λ s37 S10=> .ld 2 S10 2 rfl<| .ld 1 S10 2 rfl<| .e rfl (λ _ q=> .add (b:=(1:Int)) rfl rfl (by unfold aY;omega)) S10<| .ld 1 S10 2 rfl<| .ld 1 S10 2 rfl<| .ld 1 S10 2 rfl<| .e rfl (λ _ q=> .sub rfl rfl (by unfold aY;omega)) S10<| .c 0 S10 (fo _ (bs) x.nm _ (s37.ah 1 rfl) (by (try simp only [sp,KP,KY]);omega)) rfl λ r15 _ h15=> ?_
  have s38:=(s37.az h15).nn
  have S11:=s38.pk [0,1,2]
  refine ⟨S11,?_⟩
  refine .c 0 S11 (fb _ (bs++cr x.nm) ((x.p+1)) _ (s38.ah 3 rfl) (by omega) (by (try simp only [sp,KP,KY]);omega)) rfl λ r16 _ h16=> ?_
  have s39:=s38.az h16
  have S12:=s39.pk [0,1,2]
  refine ⟨S12,?_⟩
  refine .c 0 S12 (fb _ (bs++cr x.nm++uv ((x.p+1)).toNat) (x.b) _ (s39.ah 4 rfl) (by omega) (by (try simp only [sp,KP,KY]);omega)) rfl λ r17 _ h17=> ?_
  have s40:=s39.az h17
  have S13:=s40.pk [0,1,2]
  refine ⟨S13,?_⟩
  refine .c 0 S13 (fb _ (bs++cr x.nm++uv ((x.p+1)).toNat++uv (x.b).toNat) ((x.e-x.b)) _ (s40.ah 5 rfl) (by omega) (by (try simp only [sp,KP,KY]);omega)) rfl λ r18 _ h18=> ?_
  have s41:=(s40.az h18).nn
  have S14:=s41.pk [0,1,2]
  refine ⟨S14,?_⟩
  refine .Z S14 rfl<| .U rfl ?_
  exact aT (k+1,r18,bs++cr x.nm++uv ((x.p+1)).toNat++uv (x.b).toNat++uv ((x.e-x.b)).toNat) ⟨s41.pk [0,6],by omega,by rw [ij hx,hbs];simp only [LW]<;>rfl,by (try simp only [sp,KP,KY]);omega⟩
 refine .ao<| .h<| .ld 2 s34 0 rfl<| .ln 0 (hr.h.ext s34.ext) rfl<| .c 0 (eh _ (bs) (c.hd.length) _ (s34.ah 1 rfl) (by omega) (by (try simp only [sp,KP,KY]);omega)) rfl λ r19 _ h19=> ?_
 have s43:=s34.az h19
 refine .Z rfl<| .seq<| .h<| .ld 1 s43 0 rfl<| .ln 0 (hr.h.ext s43.ext) rfl<| .Z rfl<| .block ?_
 have s44:=s43.pk [0,2]
 refine .lq [0,1,2,3,6,11,36,51,52,77,78,110,111,140,141] rfl (α:=Nat×Value×List Nat) (λ (k,sv,bs)=>[(7,sv),(142,(.int .i64 k))]) (λ (k,sv,bs) w'=>Sat w (s44.U [(1,cL sv 5 (aa .u8) (bs))]) w'/\(k<=c.hd.length)/\(bs=[67,83,49]++uv c.at_.length++eM lexB bW c.v.at_ c.v.tk c.at_.length++uv c.tx.length++c.tx.flatMap (λ x=>gS x.v)++uv c.rg.length++fw 0 (c.rg.map Iv.v)++uv c.nd.length++c.nd.flatMap rH++uv c.hd.length++((c.hd.zip c.rl).take k).flatMap sM)/\(bs.length<=40400400+200*k)) (λ (k,sv,bs)=>c.hd.length-k) (0,r19,bs++uv (c.hd.length)) ⟨s44,KD _,by rw [hbs,PV (by omega)];simp,by rw [sp];omega⟩ ?_
 rintro ⟨k,sv,bs⟩ w33 ⟨s45,hk,hbs,hbl⟩
 refine .Z rfl<| .seq<| .ae rfl (λ c5=> ?_) λ c5=> ?_
 ·refine .skip<| .seq<| .block<| .seq ?_
  obtain ⟨x,hx⟩:∃ x,(c.hd)[k]? =some x:=⟨_,py c5⟩
  obtain ⟨s,hs9⟩:∃ s,c.rl[k]? =some s:=⟨_,py (by omega)⟩
  have hxo:=ho.OI hn hx hs9
  have ht1:=bK s
  have hu1:=aD (x+1).toNat
  refine .region<| .ix 1 (hr.h.ext s45.ext) rfl<| .le 0 (hr.h.ext s45.ext) hx rfl<| .Z rfl<| .dk [0,1] s45 rfl (pl [0,1,2,4,5,6,7,8,1003,1009,10] .fin) λ s46 S15=> .z 2 S15 rfl<| .e rfl (λ _ q=> .add (b:=(1:Int)) rfl rfl (by unfold aY;omega)) S15<| .ld 1 S15 0 rfl<| .ix 1 S15 (hr.l.ext ·.ext) rfl<| .le 0 S15 (hr.l.ext ·.ext) hs9 rfl<| .c 0 S15 (fb _ (bs) ((x+1)) _ (s46.ah 1 rfl) (by omega) (by (try simp only [sp,KP,KY]);omega)) rfl λ r20 _ h20=> ?_
  have s47:=s46.az h20
  have S16:=s47.pk [0,1]
  refine ⟨S16,?_⟩
  refine .c 0 S16 (fo _ (bs++uv ((x+1)).toNat) s _ (s47.ah 2 rfl) (by (try simp only [sp,KP,KY]);omega)) rfl λ r21 _ h21=> ?_
  have s48:=s47.az h21
  have S17:=s48.pk [0,1]
  refine ⟨S17,?_⟩
  refine .Z S17 rfl<| .U rfl ?_
  exact aT (k+1,r21,bs++uv ((x+1)).toNat++cr s) ⟨s48.pk [0,3],by omega,by rw [ij (BD hx hs9),hbs];simp only [LW]<;>rfl,by (try simp only [sp,KP,KY]);omega⟩
 refine .ao<| .seq ?_
 have hfin:bs=iR lexB bW c.v:=by rw [hbs,PV (by rw [length_zip];omega)];rw [ny];unfold E1;simp only [LW]
 refine .region<| .c 1 (jQ _ (bs) _ (s45.ah 1 rfl) (by rw [hfin];exact Ap pU pV _) (by omega)) rfl λ r22 _ h22=> ?_
 have s50:=s45.az h22
 refine .e rfl (.cZ underlying45 underlying9 underlying5 rfl (s50.ah 2 rfl))<| .Z rfl<| .cj rfl rfl rfl ?_
 rw [hfin]
 exact ⟨rfl,s50.pk []⟩
theorem RdL.to {α:Type} {w:World} {v:Value} {E:Enc α} {l l':List α} (h:RdL w v E l) (e:l=l'):RdL w v E l':=e▸h
def HO (l:List Nat):List Nat:=aH (bY 0 l)++qg (ga l l.length) (ga l l.length).length
def xw (l:List Nat):List Nat:=uv (bY 0 l).length++HO l
theorem ES (l:List Nat):mH l=uv l.length++xw l:=by unfold mH xw HO;simp only [LW]
theorem jS {n:Nat} (r:List Nat):((uv n++r).take (uv n++r).length).drop (uv n).length=r:=by rw [PW,TU]
theorem zO (v:Value) (b l:List Nat) (w:World) (hv:RdL w v (aa .u8) b) (hl:OkP l) (he:b=aM (mH l)):
  CallsV prog 156 [v] w λ r w'=>∃ g bv sv,r= .tuple #[.pointer (some ⟨g,0,none⟩),.int .i64 ((0:Nat):Int)]/\Sat w [aq g 173 [.int .i64 (l.length:Int),.int .i64 ((bY 0 l).length:Int),bv,sv],cL bv 5 (aa .u8) (aH (bY 0 l)),cL sv 192 qF (ga l l.length)] w':=by
 have hln:=hl.len
 have hgl:=jc l 0 hl.lt
 have hpl:=bc (bY 0 l)
 have hpe:=ES l
 have hpn:=je hl
 have hql:(mH l).length=(uv l.length).length+((uv (bY 0 l).length).length+(HO l).length):=by rw [hpe];unfold xw;simp only [sp]
 have hp8:(HO l).length=((bY 0 l).length+7)/8+(qg (ga l l.length) (ga l l.length).length).length:=by unfold HO;rw [sp,hpl]
 have hbl:∀ x∈mH l,x<256:=iA l
 obtain ⟨R,hR⟩:∃ R,R=xw l:=⟨_,rfl⟩
 have hbR:∀ x∈R,x<256:=λ x hx=>hbl x (by rw [hpe,<-hR];exact QQ _ hx)
 have hRl:R.length=(uv (bY 0 l).length).length+(HO l).length:=by rw [hR];unfold xw;rw [sp]
 have hs0:=Sat.start w
 refine ai func156 rfl rfl ?_
 refine .Z rfl<| .h<| .c 1 (qE _ (b) (mH l) _ (hv.ext hs0.ext) (he) (iA l) (by omega)) rfl λ r1 _ h1=> ?_
 obtain ⟨uv1,rfl,p1⟩:=h1
 have s1:=hs0.az p1
 refine .Z rfl ?_
 have s2:=s1.aZ 0 rfl (show mH l=uv l.length++xw l from ES l)
 refine .seq<| .Z rfl<| .aj rfl (rfl)<| .skip<| .h<| .cq 1 s2 (fa _ (uv l.length++xw l) _ (s2.ah 0 rfl) ((by first|exact hbR|(intro x hx;exact hbl x (by rw [hpe];exact hx))))) rfl λ _ s3=> .Z rfl ?_
 have hn1:=oG (x:=l.length) (by omega) (xw l)
 refine .weaken [(0,_),(2,_),(3,_),(4,_),(5,_),(6,(.int .u64 l.length)),(7,_),(12,_),(13,_),(14,_),(15,_),(16,_),(17,_),(19,_),(20,_),(21,_),(22,_),(23,_),(24,_)] ⟨rfl,rfl,rfl,rfl,rfl,If some (show _=Value.int .u64 ((l.length:Nat):Int) from If (λ q:Nat×Nat×Nat=>Value.int .u64 ((q.1:Nat):Int)) hn1),rfl,rfl,rfl,rfl,rfl,rfl,rfl,rfl,rfl,rfl,rfl,rfl,rfl,trivial⟩<| .weaken [(0,_),(2,_),(3,_),(4,_),(5,_),(6,_),(7,(.int .i64 ((uv (l.length)).length:Nat))),(12,_),(13,_),(14,_),(15,_),(16,_),(17,_),(19,_),(20,_),(21,_),(22,_),(23,_),(24,_)] ⟨rfl,rfl,rfl,rfl,rfl,rfl,If some (show _=Value.int .i64 (((uv (l.length)).length:Nat):Int) from If (λ q:Nat×Nat×Nat=>Value.int .i64 ((q.2.1:Nat):Int)) hn1),rfl,rfl,rfl,rfl,rfl,rfl,rfl,rfl,rfl,rfl,rfl,rfl,trivial⟩<| .weaken [(0,_),(2,_),(3,_),(4,_),(5,(.int .i64 (0:Nat))),(6,_),(7,_),(12,_),(13,_),(14,_),(15,_),(16,_),(17,_),(19,_),(20,_),(21,_),(22,_),(23,_),(24,_)] ⟨rfl,rfl,rfl,rfl,If some (show _=Value.int .i64 ((0:Nat):Int) from If (λ q:Nat×Nat×Nat=>Value.int .i64 ((q.2.2:Nat):Int)) hn1),rfl,rfl,rfl,rfl,rfl,rfl,rfl,rfl,rfl,rfl,rfl,rfl,rfl,rfl,trivial⟩<| .seq<| .Z rfl<| .aj rfl (IN (by omega))<| .skip<| .h<| .a 2 rfl (.aV (E:=aa .u8) (a:=(uv (l.length)).length) (c:=(uv l.length++xw l).length) ch rfl (s3.ah 0 rfl) ⟨_,rfl⟩ rfl (by simp only [sp];omega) (KB _))<| .Z rfl<| .h<| .cp 1 s3 (fa _ (R) _ (RdL.to (((s3.ah 0 rfl)).sub (a:=(uv (l.length)).length) (b:=(uv l.length++xw l).length) (by simp only [sp];omega) (KB _)) ((jS (xw l)).trans hR.symm)) ((by first|exact hbR|(intro x hx;exact hbl x (by rw [hpe];exact hx))))) rfl λ _ s4=> .Z rfl<| .trim [0,2,3,4,5,6,7,8] rfl ?_
 have hn2:fY R=((bY 0 l).length,(uv (bY 0 l).length).length,0):=by rw [hR];exact oG (x:=(bY 0 l).length) (by omega) (HO l)
 refine .weaken [(0,_),(2,_),(3,_),(4,_),(5,_),(6,_),(7,_),(8,(.int .u64 (Nat.cast ((bY 0 l).length):Int)))] ⟨rfl,rfl,rfl,rfl,rfl,rfl,rfl,If some (show _=Value.int .u64 (((bY 0 l).length:Nat):Int) from If (λ q:Nat×Nat×Nat=>Value.int .u64 ((q.1:Nat):Int)) hn2),trivial⟩<| .weaken [(0,_),(2,_),(3,_),(4,_),(5,_),(6,_),(7,(.int .i64 (Nat.cast ((uv ((bY 0 l).length)).length):Int))),(8,_)] ⟨rfl,rfl,rfl,rfl,rfl,rfl,If some (show _=Value.int .i64 (((uv ((bY 0 l).length)).length:Nat):Int) from If (λ q:Nat×Nat×Nat=>Value.int .i64 ((q.2.1:Nat):Int)) hn2),rfl,trivial⟩<| .weaken [(0,_),(2,_),(3,_),(4,_),(5,(.int .i64 (0:Nat))),(6,_),(7,_),(8,_)] ⟨rfl,rfl,rfl,rfl,If some (show _=Value.int .i64 ((0:Nat):Int) from If (λ q:Nat×Nat×Nat=>Value.int .i64 ((q.2.2:Nat):Int)) hn2),rfl,rfl,rfl,trivial⟩<| .seq<| .h<| .ln 5 (RdL.to (((s4.ah 0 rfl)).sub (a:=(uv (l.length)).length) (b:=(uv l.length++xw l).length) (by simp only [sp];omega) (KB _)) ((jS (xw l)).trans hR.symm)) rfl<| .Z rfl<| .aj rfl (IN (by omega))<| .skip<| .seq ?_
 have hq9:(R.take R.length).drop (uv (bY 0 l).length).length=HO l:=by rw [hR];exact jS (HO l)
 refine .region<| .a 2 rfl (.aV (E:=aa .u8) (a:=(uv ((bY 0 l).length)).length) (c:=(R).length) ch rfl (RdL.to (((s4.ah 0 rfl)).sub (a:=(uv (l.length)).length) (b:=(uv l.length++xw l).length) (by simp only [sp];omega) (KB _)) ((jS (xw l)).trans hR.symm)) ⟨_,rfl⟩ rfl (by omega) (KB _))<| .c 4 (Iz _ (((R).take ((R).length)).drop ((uv ((bY 0 l).length)).length)) (l) _ (((RdL.to (((s4.ah 0 rfl)).sub (a:=(uv (l.length)).length) (b:=(uv l.length++xw l).length) (by simp only [sp];omega) (KB _)) ((jS (xw l)).trans hR.symm))).sub (a:=(uv ((bY 0 l).length)).length) (b:=(R).length) (by omega) (KB _)) (by rw [hq9];omega) (by rw [hq9];unfold HO;rw [<-hpl,TA]) (by rw [hq9];omega) (hl)) rfl λ r4 _ h4=> ?_
 obtain ⟨pv1,rfl,p4⟩:=h4
 have s5:=s4.az p4
 refine .Z rfl<| .seq<| .Z rfl<| .aj rfl (rfl)<| .skip<| .h<| .c 1 (tG _ (l) _ (s5.ah 1 rfl) (hl)) rfl λ r5 _ h5=> ?_
 obtain ⟨pg1,pbv1,psv1,rfl,p5⟩:=h5
 have s6:=(s5.az p5).nn
 refine .Z rfl<| .seq<| .h<| .c 4 (qG _ _ _ (l) _ (s6.cell (i:=2) (j:=0) rfl rfl) (s6.cell (i:=2) (j:=1) rfl rfl) (s6.cell (i:=2) (j:=2) rfl rfl) (s6.cell (i:=2) (j:=3) rfl rfl) (s6.ah 3 rfl) (s6.ah 4 rfl) (hl)) rfl λ r6 _ h6=> ?_
 have s7:=s6.az h6
 refine .cp 1 s7 (uU _ _ (aM (mH (l))) (b) _ (s7.ah 5 rfl) (hv.ext s7.ext) (dN rfl (iA l)) (dN he (iA l))) rfl λ _ s8=> .a 0 rfl (.mF rfl)<| .Z rfl<| .aj rfl (IN (λ h=>h he.symm))<| .skip<| .seq<| .trim [0,2,3,4,5,6,7,8,9,10,11] rfl<| .U rfl<| .cj rfl rfl rfl ?_
 exact ⟨_,_,_,rfl,s8.pk [2,3,4]⟩
end Go.Proofs.YthffkcnbdehceaaGreat
