/-The walks of the functions of F41,printed by our own program (kwgen.py) out of our descriptions (base.py). -/
import Derived.Test.YthffkcnbdehceaaGreatF06v
import Derived.Test.YthffkcnbdehceaaGreatF16t
import Derived.Test.YthffkcnbdehceaaGreatKrt
import Derived.Test.YthffkcnbdehceaaGreatM02v
open List
open Go.Proofs.Tryz
set_option linter.unusedVariables false
set_option linter.unusedSimpArgs false
set_option linter.unusedSectionVars false
namespace Go.Proofs.YthffkcnbdehceaaGreat
open Go.RowKit Go.Kw
set_option maxRecDepth 100000
theorem gP (w0 w:World) (cs:List Chunk) (g:Nat) (v:Value) (acc:List Nat) (n:Nat) (hs:Sat w0 ([aj g 66 [v],cL v 5 (a8 .u8) (acc)]++cs) w) (hn:n<2^62) (ha:acc.length<=100000000000):
  CallsV prog 28 [(.pointer (some ⟨g,0,none⟩)),(.int .i64 n)] w λ r w'=>r= .tuple #[]/\∃ v',Sat w0 ([aj g 66 [v'],cL v' 5 (a8 .u8) (acc++uv n)]++cs) w':=by
 refine ae func28 rfl rfl ?_
 refine .region<| .ld 4 hs 0 rfl<| .c 2 (cS v (acc) (n) _ (hs.ah 1 rfl) (by omega) (by omega)) rfl λ r1 _ h_1=> ?_
 have s1:=(hs.aD h_1).mn
 refine .st 2 s1 0 rfl (h1:=(s1.ah 2 rfl).a7) λ _ s2 _=> ?_
 have s2d:=s2.sn
 refine .nil ?_
 show aK _ _ _ _ _ _
 refine bt rfl ?_
 have s3:=s2d.pt [0,2]
 exact ⟨rfl,_,s3⟩
theorem gr (w0 w:World) (cs:List Chunk) (g:Nat) (v:Value) (acc:List Nat) (z:Int) (hs:Sat w0 ([aj g 66 [v],cL v 5 (a8 .u8) (acc)]++cs) w) (hz:0<=z/\z<2^62) (ha:acc.length<=100000000000):CallsV prog 28 [.pointer (some ⟨g,0,none⟩),.int .i64 z] w λ r w'=>r= .tuple #[]/\∃ v',Sat w0 ([aj g 66 [v'],cL v' 5 (a8 .u8) (acc++uv z.toNat)]++cs) w':=by
 obtain ⟨n,rfl⟩:=Int.eq_ofNat_of_zero_le hz.1
 exact gP w0 w cs g v acc n hs (by omega) ha
theorem dY (w0 w:World) (cs:List Chunk) (g:Nat) (v:Value) (acc:List Nat) (s:ByteArray) (hs:Sat w0 ([aj g 66 [v],cL v 5 (a8 .u8) (acc)]++cs) w) (ha:acc.length+s.size<=10000000000):
  CallsV prog 30 [(.pointer (some ⟨g,0,none⟩)),(.string s)] w λ r w'=>r= .tuple #[]/\∃ v',Sat w0 ([aj g 66 [v'],cL v' 5 (a8 .u8) (acc++dq s)]++cs) w':=by
 have hu:=aN s.size
 refine ae func30 rfl rfl ?_
 refine .h<| .a 2 rfl (.bP underlying9 rfl) ?_
 have A1:=hs.oc [0,1] 2
 refine .c 0 (gP _ _ _ _ _ (acc) (s.size) A1 (by omega) (by omega)) rfl λ r1 _ h_1=> ?_
 obtain ⟨rfl,wv1,p1⟩:=h_1
 have s1:=p1.join.od [0,1]
 refine .nil<| .region<| .ld 4 s1 0 rfl<| .b 1 rfl (.pV 1 cg s1 rfl rfl rfl (Ba underlying9 _) (by simp only [length_append,az];omega) (by simp only [length_append,az];omega) λ v1 _ s2 _=> ?_)
 have s2d:=s2.sn
 refine .st 2 s2d 0 rfl (h1:=(s2d.ah 1 rfl).a7) λ _ s3 _=> ?_
 have s3d:=s3.sn
 refine .nil ?_
 show aK _ _ _ _ _ _
 refine bt rfl ?_
 have s4:=s3d.pt [0,1]
 have s5:=(s4.cF 1 rfl (show acc++uv (s.size)++aV s=acc++dq s from by unfold dq;rw [append_assoc])).sn
 exact ⟨rfl,_,s5⟩
theorem vG (w0 w:World) (cs:List Chunk) (g:Nat) (v:Value) (acc:List Nat) (vp:Value) (ps:List Pr) (hs:Sat w0 ([aj g 66 [v],cL v 5 (a8 .u8) (acc)]++cs) w) (hv:RdL w0 vp aQ ps) (h:okPs ps) (ha:acc.length<=1000000000):
  CallsV prog 31 [(.pointer (some ⟨g,0,none⟩)),vp] w λ r w'=>r= .tuple #[]/\∃ v',Sat w0 ([aj g 66 [v'],cL v' 5 (a8 .u8) (acc++rU ps)]++cs) w':=by
 have h8:=h.1
 have hu:=aN ps.length
 refine ae func31 rfl rfl ?_
 refine .h<| .ln 2 (hv.ext hs.ext) rfl ?_
 have A1:=hs.oc [0,1] 2
 refine .c 0 (gP _ _ _ _ _ (acc) (ps.length) A1 (by omega) (by omega)) rfl λ r1 _ h1=> ?_
 obtain ⟨rfl,wv1,p1⟩:=h1
 have s1:=p1.join.od [0,1]
 refine .nil<| .h<| .ln 1 (hv.ext s1.ext) rfl<| .Z rfl<| .block ?_
 have s2:=s1.pt [0,1]
 refine .lq [0,1,10,11] rfl (α:=Nat×Value×List Nat) (λ (k,sv,bs)=>[(12,(.int .i64 k))]) (λ (k,sv,bs) w'=>Sat w0 ([aj g 66 [sv],cL sv 5 (a8 .u8) (bs)]++cs) w'/\(k<=ps.length)/\(bs=acc++uv ps.length++(ps.take k).flatMap (λ p:Pr=>dq p.1++dq p.2))/\(bs.length<=acc.length+10+172*k)) (λ (k,sv,bs)=>ps.length-k) (0,wv1,acc++uv (ps.length)) ⟨s2,Nat.zero_le _,by simp,by rw [length_append];omega⟩ ?_
 rintro ⟨k,sv,bs⟩ w2 ⟨s3,hk,hbs,hbl⟩
 refine .Z rfl<| .seq<| .ab rfl (λ c1=> ?_) λ c1=> ?_
 ·refine .skip<| .seq<| .block<| .seq ?_
  obtain ⟨x,hx⟩:∃ x,(ps)[k]? =some x:=⟨_,getElem?_eq_getElem c1⟩
  have hz:=Jz h hx
  have ht1:=cR x.1
  have ht2:=cR x.2
  refine .region<| .ix 0 (hv.ext s3.ext) rfl<| .lg 0 (hv.ext s3.ext) hx rfl<| .al 0 s3 rfl λ b1 _ s4 _ _=> ?_
  have s4d:=s4.mn
  refine .sa 0 s4d 2 rfl ((aQ).one _) λ _ s5 _=> ?_
  have s5d:=s5.sn
  refine .nil<| .h<| .ld 2 s5d 2 rfl ?_
  have A2:=s5d.oc [0,1,2] 2
  refine .c 0 (dY _ _ _ _ _ (bs) x.1 A2 (by (try simp only [length_append]);omega)) rfl λ r2 _ h2=> ?_
  obtain ⟨rfl,wv2,p2⟩:=h2
  have s6:=p2.join.od [0,1,2]
  refine .nil<| .region<| .ld 2 s6 2 rfl ?_
  have A3:=s6.oc [0,1,2] 2
  refine .c 0 (dY _ _ _ _ _ (bs++dq x.1) x.2 A3 (by (try simp only [length_append]);omega)) rfl λ r3 _ h3=> ?_
  obtain ⟨rfl,wv3,p3⟩:=h3
  have s7:=p3.join.od [0,1,2]
  refine .nil<| .U rfl ?_
  have s8:=s7.pt [0,1]
  exact bc (k+1,wv3,bs++dq x.1++dq x.2) ⟨s8,by omega,by rw [rG hx,hbs];simp only [append_assoc],by (try simp only [length_append]);omega⟩
 refine .ao ?_
 show aK _ _ _ _ _ _
 refine bt rfl ?_
 have he:bs=acc++rU ps:=by rw [hbs,take_of_length_le (by omega)];unfold rU;rw [append_assoc]
 rw [he] at s3
 exact ⟨rfl,_,s3⟩
theorem DN (w0 w:World) (cs:List Chunk) (g:Nat) (v:Value) (acc:List Nat) (c:Co) (n:Nat) (hr:RdC w0 c) (ho:OkC n c) (hn:n<=3) (hs:Sat w0 ([aj g 66 [v],cL v 5 (a8 .u8) (acc)]++cs) w) (ha:acc.length<=1000000000):
  CallsV prog 32 [(.pointer (some ⟨g,0,none⟩)),(.agg #[c.va,c.vt,c.vx,c.vr,c.vn,c.vh,c.vl])] w λ r w'=>r= .tuple #[]/\∃ v',Sat w0 ([aj g 66 [v'],cL v' 5 (a8 .u8) (acc++Gq c.nd c.hd c.rl)]++cs) w':=by
 have htk:=ho.ntk
 have hnd:=ho.nnd
 have hhl:=ho.I5 hn
 have hu4:=aN c.nd.length
 have hu5:=aN c.hd.length
 refine ae func32 rfl rfl ?_
 refine .h<| .bx 0 hs rfl λ b1 _ s1 _ _=> ?_
 have s1d:=s1.mn
 refine .nil<| .h<| .ld 2 s1d 2 rfl<| .ln 0 (hr.n.ext s1d.ext) rfl ?_
 have A1:=s1d.oc [0,1,2] 2
 refine .c 0 (gP _ _ _ _ _ (acc) (c.nd.length) A1 (by omega) (by (try simp only [length_append]);omega)) rfl λ r1 _ h1=> ?_
 obtain ⟨rfl,wv1,p1⟩:=h1
 have s2:=p1.join.od [0,1,2]
 refine .nil<| .seq<| .h<| .ld 1 s2 2 rfl<| .ln 0 (hr.n.ext s2.ext) rfl<| .Z rfl<| .block<| .lq [0,1,3,14,15] rfl (α:=Nat×Value×List Nat) (λ (k,sv,bs)=>[(16,(.int .i64 k))]) (λ (k,sv,bs) w'=>Sat w0 (s2.V [(0,aj g 66 [sv]),(1,cL sv 5 (a8 .u8) (bs))]++cs) w'/\(k<=c.nd.length)/\(bs=acc++uv c.nd.length++(c.nd.take k).flatMap uh)/\(bs.length<=acc.length+10+80*k)) (λ (k,sv,bs)=>c.nd.length-k) (0,wv1,acc++uv (c.nd.length)) ⟨s2,Nat.zero_le _,by simp,by (try simp only [length_append]);omega⟩ ?_
 rintro ⟨k,sv,bs⟩ w3 ⟨s3,hk,hbs,hbl⟩
 refine .Z rfl<| .seq<| .ab rfl (λ c1=> ?_) λ c1=> ?_
 ·refine .skip<| .seq<| .block<| .seq ?_
  obtain ⟨x,hx⟩:∃ x,(c.nd)[k]? =some x:=⟨_,getElem?_eq_getElem c1⟩
  have hxo:=ho.nd.el x (aa hx)
  have hxp:=ho.nd.par k x hx
  have hbd:=hxo.2.bd ho.tx
  have hns:=bJ hxo.1
  have ht1:=cR x.nm
  have hu1:=aN (x.p+1).toNat
  have hu2:=aN x.b.toNat
  have hu3:=aN (x.e-x.b).toNat
  refine .region<| .ix 0 (hr.n.ext s3.ext) rfl<| .lg 0 (hr.n.ext s3.ext) hx rfl<| .al 0 s3 rfl λ b2 _ s4 _ _=> ?_
  have s4d:=s4.mn
  refine .sa 0 s4d 3 rfl ((br).one _) λ _ s5 _=> ?_
  have s5d:=s5.sn
  refine .nil<| .h<| .ld 2 s5d 3 rfl ?_
  have A2:=s5d.oc [0,1,2,3] 2
  refine .c 0 (dY _ _ _ _ _ (bs) x.nm A2 (by (try simp only [length_append]);omega)) rfl λ r2 _ h2=> ?_
  obtain ⟨rfl,wv2,p2⟩:=h2
  have s6:=p2.join.od [0,1,2,3]
  refine .nil<| .h<| .ld 2 s6 3 rfl<| .e rfl (.add (b:=(1:Int)) rfl rfl (by unfold bo;omega)) ?_
  have A3:=s6.oc [0,1,2,3] 2
  refine .c 0 (gr _ _ _ _ _ (bs++dq x.nm) ((x.p+1)) A3 (by omega) (by (try simp only [length_append]);omega)) rfl λ r3 _ h3=> ?_
  obtain ⟨rfl,wv3,p3⟩:=h3
  have s7:=p3.join.od [0,1,2,3]
  refine .nil<| .h<| .ld 2 s7 3 rfl ?_
  have A4:=s7.oc [0,1,2,3] 2
  refine .c 0 (gr _ _ _ _ _ (bs++dq x.nm++uv ((x.p+1)).toNat) (x.b) A4 (by omega) (by (try simp only [length_append]);omega)) rfl λ r4 _ h4=> ?_
  obtain ⟨rfl,wv4,p4⟩:=h4
  have s8:=p4.join.od [0,1,2,3]
  refine .nil<| .region<| .ld 2 s8 3 rfl<| .ld 1 s8 3 rfl<| .e rfl (.sub rfl rfl (by unfold bo;omega)) ?_
  have A5:=s8.oc [0,1,2,3] 2
  refine .c 0 (gr _ _ _ _ _ (bs++dq x.nm++uv ((x.p+1)).toNat++uv (x.b).toNat) ((x.e-x.b)) A5 (by omega) (by (try simp only [length_append]);omega)) rfl λ r5 _ h5=> ?_
  obtain ⟨rfl,wv5,p5⟩:=h5
  have s9:=p5.join.od [0,1,2,3]
  refine .nil<| .U rfl ?_
  have s10:=s9.pt [0,1,2]
  exact bc (k+1,wv5,bs++dq x.nm++uv ((x.p+1)).toNat++uv (x.b).toNat++uv ((x.e-x.b)).toNat) ⟨s10,by omega,by rw [rG hx,hbs];simp only [append_assoc];rfl,by (try simp only [length_append]);omega⟩
 refine .ao<| .h<| .ld 2 s3 2 rfl<| .ln 0 (hr.h.ext s3.ext) rfl ?_
 have A6:=s3.oc [0,1,2] 2
 refine .c 0 (gP _ _ _ _ _ (bs) (c.hd.length) A6 (by omega) (by (try simp only [length_append]);omega)) rfl λ r6 _ h6=> ?_
 obtain ⟨rfl,wv6,p6⟩:=h6
 have s11:=p6.join.od [0,1,2]
 refine .nil<| .h<| .ld 1 s11 2 rfl<| .ln 0 (hr.h.ext s11.ext) rfl<| .Z rfl<| .block<| .lq [0,1,3,14,15,47,48] rfl (α:=Nat×Value×List Nat) (λ (k,sv,bs)=>[(49,(.int .i64 k))]) (λ (k,sv,bs) w'=>Sat w0 (s11.V [(0,aj g 66 [sv]),(1,cL sv 5 (a8 .u8) (bs))]++cs) w'/\(k<=c.hd.length)/\(bs=acc++uv c.nd.length++c.nd.flatMap uh++uv c.hd.length++((c.hd.zip c.rl).take k).flatMap pO)/\(bs.length<=acc.length+2000+60*k)) (λ (k,sv,bs)=>c.hd.length-k) (0,wv6,bs++uv (c.hd.length)) ⟨s11,Nat.zero_le _,by rw [hbs,take_of_length_le (by omega)];simp,by (try simp only [length_append]);omega⟩ ?_
 rintro ⟨k,sv,bs⟩ w11 ⟨s12,hk2,hbs,hbl⟩
 refine .Z rfl<| .seq<| .ab rfl (λ c2=> ?_) λ c2=> ?_
 ·refine .skip<| .seq<| .block<| .seq ?_
  obtain ⟨x,hx⟩:∃ x,(c.hd)[k]? =some x:=⟨_,getElem?_eq_getElem c2⟩
  obtain ⟨s,hs9⟩:∃ s,c.rl[k]? =some s:=⟨_,getElem?_eq_getElem (by omega)⟩
  have hxo:=ho.PC hn hx hs9
  have ht1:=cR s
  have hu1:=aN (x+1).toNat
  refine .region<| .ix 1 (hr.h.ext s12.ext) rfl<| .le 0 (hr.h.ext s12.ext) hx rfl<| .Z rfl<| .h<| .a 2 rfl (.add (b:=(1:Int)) rfl rfl (by unfold bo;omega)) ?_
  have A7:=s12.oc [0,1,2] 2
  refine .c 0 (gr _ _ _ _ _ (bs) ((x+1)) A7 (by omega) (by (try simp only [length_append]);omega)) rfl λ r7 _ h7=> ?_
  obtain ⟨rfl,wv7,p7⟩:=h7
  have s13:=p7.join.od [0,1,2]
  refine .nil<| .region<| .ld 2 s13 2 rfl<| .ix 1 (hr.l.ext s13.ext) rfl<| .le 0 (hr.l.ext s13.ext) hs9 rfl ?_
  have A8:=s13.oc [0,1,2] 2
  refine .c 0 (dY _ _ _ _ _ (bs++uv ((x+1)).toNat) s A8 (by (try simp only [length_append]);omega)) rfl λ r8 _ h8=> ?_
  obtain ⟨rfl,wv8,p8⟩:=h8
  have s14:=p8.join.od [0,1,2]
  refine .nil<| .U rfl ?_
  exact bc (k+1,wv8,bs++uv ((x+1)).toNat++dq s) ⟨s14,by omega,by rw [rG (JA hx hs9),hbs];simp only [append_assoc];rfl,by (try simp only [length_append]);omega⟩
 refine .ao ?_
 show aK _ _ _ _ _ _
 refine bt rfl ?_
 have s15:=s12.pt [0,1]
 have he:bs=acc++Gq c.nd c.hd c.rl:=by
  rw [hbs,take_of_length_le (by rw [length_zip];omega)];unfold Gq;simp only [append_assoc]
 rw [he] at s15
 exact ⟨rfl,_,s15⟩
set_option maxHeartbeats 2000000 in
theorem J5 (w0 w:World) (cs:List Chunk) (g:Nat) (v:Value) (acc:List Nat) (c:Co) (n:Nat) (hr:RdC w0 c) (ho:OkC n c) (hn:n<=3) (a:Nat) (at_:ByteArray×Bool) (hs:Sat w0 ([aj g 66 [v],cL v 5 (a8 .u8) (acc)]++cs) w) (hat:c.at_[a]? =some at_) (ha:acc.length<=1000000000):
  CallsV prog 29 [(.pointer (some ⟨g,0,none⟩)),(.agg #[c.va,c.vt,c.vx,c.vr,c.vn,c.vh,c.vl]),(.int .i64 a)] w λ r w'=>r= .int .i64 ((0:Nat):Int)/\∃ v',Sat w0 ([aj g 66 [v'],cL v' 5 (a8 .u8) (acc++kd lexB bQ at_ (fU c a))]++cs) w':=by
 have htk:=ho.ntk
 have hal:=ch hat
 have hok:=xj ho hn hal
 obtain ⟨us,hu0⟩:∃ us,us=fU c a:=⟨_,rfl⟩
 rw [<-hu0] at hok
 obtain ⟨hbe,hus⟩:=hok
 have hul:us.length=c.tk.length:=by rw [hu0,nM]
 have hwl:=bZ us
 obtain ⟨l,hl0⟩:∃ l,l=cZ us:=⟨_,rfl⟩
 have hl:OkN l:=by rw [hl0];exact AQ hus.1
 have hll:l.length=us.length:=by rw [hl0];unfold cZ;rw [length_map]
 have hxl:=mI hus
 have htl:(bQ l).length<=2000004:=by rw [hl0];exact mJ hus.1
 have hnsz:=bJ (ho.at_.1 a at_ hat).1
 have hnt:=cR at_.1
 have hu8:=ho.at_.2
 refine ae func29 rfl rfl ?_
 refine .h<| .bx 0 hs rfl λ b1 _ s1 _ _=> ?_
 have s1d:=s1.mn
 refine .Z rfl<| .h<| .ld 2 s1d 2 rfl<| .ix 1 (hr.a.ext s1d.ext) rfl<| .fl 0 (hr.a.ext s1d.ext) rfl<| .lf 0 (hr.a.ext s1d.ext) hat rfl ?_
 have A1:=s1d.oc [0,1,2] 2
 refine .c 0 (dY _ _ _ _ _ (acc) at_.1 A1 (by omega)) rfl λ r1 _ h_1=> ?_
 obtain ⟨rfl,wv1,p1⟩:=h_1
 have s2:=p1.join.od [0,1,2]
 refine .nil<| .Z rfl<| .jn [0,1,2,4,6] rfl (λ K L' w'=>∃ (sn:Nat),Weak ([(7,(.int .i64 sn))]++K) L'/\Sat w0 s2.L w'/\(sn=if at_.2 then 1 else 0)) ?_ ?_
 ·refine .h<| .ld 1 s2 2 rfl<| .ix 1 (hr.a.ext s2.ext) rfl<| .fl 0 (hr.a.ext s2.ext) rfl<| .lf 0 (hr.a.ext s2.ext) hat rfl<| .nil<| .cond rfl (λ c1=> ?_) (λ c1=> ?_)
  ·refine .U rfl ?_
   exact ⟨1,(wk rfl),s2,by simp [c1]⟩
  refine .skip ?_
  exact ⟨0,(wk rfl),s2,by simp [c1]⟩
 rintro L' w3 ⟨sn,hw1,s3,hsn⟩
 refine .weaken _ hw1<| .seq ?_
 have hs9:sn<=1:=by rw [hsn];split<;>omega
 have hu9:=aN sn
 refine .region<| .z 2 rfl ?_
 have A2:=s3.oc [0,1,2] 2
 refine .c 0 (gP _ _ _ _ _ (acc++dq at_.1) (sn) A2 (by omega) (by (try simp only [length_append]);omega)) rfl λ r2 _ h_2=> ?_
 obtain ⟨rfl,wv2,p2⟩:=h_2
 have s4:=p2.join.od [0,1,2]
 refine .nil<| .Z rfl<| .seq<| .h<| .ld 1 s4 2 rfl<| .ln 0 (hr.t.ext s4.ext) rfl<| .Z rfl<| .block ?_
 have s5:=(s4.aH 9 (aB)).mn
 refine .lq [0,1,2,4,6,7,40,41] rfl (α:=Nat×Value×List ByteArray) (λ (k,vv,vals)=>[(8,vv),(42,(.int .i64 k))]) (λ (k,vv,vals) w'=>Sat w0 (s5.V [(3,cL vv 9 (aB) (vals))]++cs) w'/\(k<=c.tk.length)/\(vals=(c.tk.take k).map (λ t=>t.ns.getD a ByteArray.empty))/\(vals.length<=k)) (λ (k,vv,vals)=>c.tk.length-k) (0,(.slice none 0 0),[]) ⟨s5,Nat.zero_le _,rfl,Nat.zero_le _⟩ ?_
 rintro ⟨k,vv,vals⟩ w5 ⟨s6,hk,hvals,hvl⟩
 refine .Z rfl<| .seq<| .ab rfl (λ c2=> ?_) λ c2=> ?_
 ·refine .skip<| .seq<| .block<| .seq ?_
  obtain ⟨x,hx⟩:∃ x,(c.tk)[k]? =some x:=⟨_,getElem?_eq_getElem c2⟩
  have htl9:=(ho.tk x (aa hx)).1
  obtain ⟨y,hy⟩:∃ y,x.ns[a]? =some y:=⟨_,getElem?_eq_getElem (by omega)⟩
  refine .region<| .ix 0 (hr.t.ext s6.ext) rfl<| .le 0 (hr.t.ext s6.ext) hx rfl<| .Z rfl<| .region<| .ix 3 ((hr.tr _ (aa hx)).ext s6.ext) rfl<| .le 0 ((hr.tr _ (aa hx)).ext s6.ext) hy rfl<| .f rfl (.cM (aB) y cE rfl s6 rfl λ v1 _ s7 _=> ?_)
  have s7d:=s7.mn
  refine .ap 0 s7d 3 (s7d.ah 4 rfl) rfl (h1:=by simp only [length_singleton];omega) (h2:=by simp only [length_singleton];omega) λ v2 _ s8 _=> ?_
  have s8d:=(s8.sn).pt [0,1,2,3]
  refine .Z rfl<| .U rfl ?_
  exact bc (k+1,v2,vals++[y]) ⟨s8d,by omega,by rw [Ed hx hy,hvals],by rw [length_append];simp only [length_singleton];omega⟩
 refine .ao<| .seq ?_
 have s9:=(s6.cF 3 rfl (show vals=us from by rw [hvals,take_of_length_le (by omega),hu0]<;>rfl)).sn
 refine .region<| .c 1 (yd (s9.ah 3 rfl) hbe) rfl λ r3 _ h_3=> ?_
 obtain ⟨lg1,lvw1,lvc1,lvo1,lvn1,rfl,p3⟩:=h_3
 have s10:=(s9.aD p3).mn
 refine .Z rfl ?_
 have s11:=(s10.cF 8 rfl (show us.map (l5 (aw us))=l from hl0.symm)).sn
 refine .seq<| .Z rfl<| .ak rfl (rfl)<| .skip<| .h<| .c 2 (vA _ _ _ _ _ _ _ _ (s11.wH 4 5 6 7 rfl rfl rfl rfl) (eM _) (λ x hx=>hus.2 x (ck.1 hx)) (λ c hc=>⟨(getElem?_of_mem hc).elim λ i hi=>su hi,by have:=oO us c hc;omega⟩) (by omega)) rfl λ r4 _ h4=> ?_
 have s12:=(s11.aD h4).mn
 refine .e rfl (.dw underlying45 underlying9 underlying5 rfl (s12.ah 9 rfl)) ?_
 have A3:=s12.oc [0,1,2,3,4,5,6,7,8,9] 2
 refine .c 0 (dY _ _ _ _ _ (acc++dq at_.1++uv (sn)) (strOf (aE (dF (aw us) (ba us) (aw us).length))) A3 (by have hq2:(aE (dF (aw us) (ba us) (aw us).length)).length<=160000:=hxl;rw [bX];(try simp only [length_append]);omega)) rfl λ r5 _ h5=> ?_
 obtain ⟨rfl,wv3,p5⟩:=h5
 have s13:=p5.join.od [0,1,2,3,4,5,6,7,8,9]
 refine .nil<| .h<| .c 1 (yj _ (l) _ (s13.ah 8 rfl) (hl)) rfl λ r6 _ h6=> ?_
 obtain ⟨g1,lv1,bv1,ps1,rfl,hps1,p6⟩:=h6
 have s14:=(s13.aD p6).mn
 refine .Z rfl<| .seq<| .Z rfl<| .ak rfl (rfl)<| .skip<| .seq ?_
 have hq1:=cR (strOf (aE (dF (aw us) (ba us) (aw us).length)))
 rw [bX] at hq1
 have hq2:(aE (dF (aw us) (ba us) (aw us).length)).length<=160000:=hxl
 have hq3:(aE (om l (bW l))).length<=2000004:=htl
 refine .region<| .c 2 (sD g1 ((l).length) (bW l) lv1 bv1 (du l) ps1 _ (s14.cell (i:=10) (j:=0) rfl rfl) (s14.cell (i:=10) (j:=1) rfl rfl) (s14.cell (i:=10) (j:=2) rfl rfl) (s14.cell (i:=10) (j:=3) rfl rfl) (s14.ah 11 rfl) (s14.ah 12 rfl) (s14.kW 13 rfl) (hl.len) (ed _) (pH hl) ((xw hps1 hl).1) ((xw hps1 hl).2) (by rw [hps1];exact CO _)) rfl λ r7 _ h7=> ?_
 have s15:=(s14.aD h7).mn
 refine .e rfl (.dw underlying45 underlying9 underlying5 rfl (s15.ah 15 rfl)) ?_
 have A4:=s15.oc [0,1,2,3,4,5,6,7,8,9,10,11,12,13,14,15] 2
 refine .c 0 (dY _ _ _ _ _ (acc++dq at_.1++uv (sn)++dq (strOf (aE (dF (aw us) (ba us) (aw us).length)))) (strOf (aE (jy ((l).length) (bW l) (du l) (bB ps1)))) A4 (by rw [hps1,xx,bX];(try simp only [length_append]);omega)) rfl λ r8 _ h8=> ?_
 obtain ⟨rfl,wv4,p8⟩:=h8
 have s16:=p8.join.od [0,1,2,3,4,5,6,7,8,9,10,11,12,13,14,15]
 refine .nil<| .h<| .cm 1 s16 (BW _ _ _ _ _ _ _ _ (s16.wH 4 5 6 7 rfl rfl rfl rfl)) rfl λ _ s17=> .f rfl (.ee (bK Nat) ((⟨none,0,0⟩,[])) Lx rfl s17 rfl rfl (by omega) (by omega) (by omega) λ v3 _ s18 _=> ?_)
 have s18d:=s18.mn
 refine .Z rfl<| .seq<| .seq<| .trim [0,1,2,4,6,7,8,11,12,13,14,15,40,41,42] rfl<| .region<| .ln 1 (s18d.ah 8 rfl) rfl<| .Z rfl<| .block ?_
 have s19:=(s18d.cF 1 rfl (show acc++dq at_.1++uv (sn)++dq (strOf (aE (dF (aw us) (ba us) (aw us).length)))++dq (strOf (aE (jy ((l).length) (bW l) (du l) (bB ps1))))=acc++(dq at_.1++(uv sn++(mq (lexB us)++mq (bQ l)))) from by rw [po (gi rfl (iX _ _ _)),hps1,xx,po (gi rfl (oM (ed l)))];simp only [append_assoc];rfl)).sn
 have s20:=s19.pt [0,1,2,8,16]
 have s21:=s20.Ai 3 (a8 .i64) (aw us).length rfl
 refine .lq [0,1,2,4,6,7,12,13,40,41,84,85] rfl (α:=Nat×Value×List (SV×List Nat)) (λ (k,pv,S)=>[(15,pv),(86,(.int .i64 k))]) (λ (k,pv,S) w'=>Sat w0 (s21.V [(4,cL pv 22 (bK Nat) (S)),(5,bm 3 (a8 .i64) (S))]++cs) w'/\(k<=l.length)/\(S.length=(aw us).length)/\(S.map Prod.snd=(List.range (aw us).length).map (dy (l.take k)))) (λ (k,pv,S)=>l.length-k) (0,v3,List.replicate (aw us).length (⟨none,0,0⟩,[])) ⟨s21,Nat.zero_le _,by simp,by apply ext_getElem<;>simp [dy]⟩ ?_
 rintro ⟨k,pv,S⟩ w16 ⟨s22,hk,hSl,hS⟩
 refine .Z rfl<| .seq<| .ab rfl (λ c3=> ?_) λ c3=> ?_
 ·refine .skip<| .seq<| .block<| .seq ?_
  obtain ⟨x,hx⟩:∃ x,(l)[k]? =some x:=⟨_,getElem?_eq_getElem c3⟩
  have hxm:x<(aw us).length:=rV x (by rw [<-hl0];exact aa hx)
  refine .region<| .ix 1 (s22.ah 3 rfl) rfl<| .le 0 (s22.ah 3 rfl) hx rfl<| .Z rfl ?_
  obtain ⟨p,hp⟩:∃ p,S[x]? =some p:=⟨_,getElem?_eq_getElem (by omega)⟩
  have hpl:p.2.length<=4096:=by rw [(Cy hS hp).1];exact (ia x (by rw [length_take];omega)).len
  have s23:=s22.Dc 5 rfl rfl hp rfl
  refine .region<| .ix 4 (s23.ah 4 rfl) rfl<| .le 0 (s23.ah 4 rfl) hp rfl<| .b 1 rfl (.cM (a8 .i64) k bj rfl s23 rfl λ v_4 _ s24 _=> ?_)
  have s24d:=s24.mn
  refine .ap 0 s24d 6 (s24d.ah 7 rfl) rfl (h1:=by simp only [length_singleton];omega) (h2:=by simp only [length_singleton];omega) λ v5 _ s25 _=> ?_
  have s25d:=(s25.sn).pt [0,1,2,3,4,5,6]
  obtain ⟨sv1,hsv1,hsv1n⟩:=(s25d.ah 6 rfl).sv
  subst hsv1
  refine .ix 0 (s25d.ah 4 rfl) rfl<| .f rfl (.dS (a:=(sv1,p.2++[k])) 4 kf s25d rfl rfl rfl rfl (by omega) λ _ s26 _=> ?_)
  have s26d:=s26.sn
  refine .nil ?_
  have s27:=s26d.HY 6 5 rfl rfl rfl rfl (by omega) rfl
  refine .U rfl ?_
  exact bc (k+1,pv,S.set x (sv1,p.2++[k])) ⟨s27,by omega,by rw [length_set];exact hSl,Gs hx hS hp⟩
 refine .ao<| .seq<| .h<| .ln 1 (s22.ah 4 rfl) rfl<| .Z rfl<| .block ?_
 rw [show k=l.length by omega,take_length] at hS
 refine .lq [0,1,2,4,7,12,13,15,40,41,84,85,102,103] rfl (α:=Nat×Value×List Nat) (λ (k,sv,bs)=>[(104,(.int .i64 k))]) (λ (k,sv,bs) w'=>Sat w0 (s22.V [(0,aj g 66 [sv]),(1,cL sv 5 (a8 .u8) (bs))]++cs) w'/\(k<=(aw us).length)/\(bs=acc++(dq at_.1++(uv sn++(mq (lexB us)++mq (bQ l))))++xG l k)/\(bs.length<=acc.length+2200000+40020*k)) (λ (k,sv,bs)=>S.length-k) (0,wv4,acc++(dq at_.1++(uv sn++(mq (lexB us)++mq (bQ l))))) ⟨s22,Nat.zero_le _,by simp [xG],by have h1:=aN sn;have h2:=aN (lexB us).length;have h3:=aN (bQ l).length;unfold mq;simp only [length_append];omega⟩ ?_
 rintro ⟨k,sv,bs⟩ w20 ⟨s28,hk,hbs,hbl⟩
 refine .Z rfl<| .seq<| .ab rfl (λ c4=> ?_) λ c4=> ?_
 ·refine .skip<| .seq<| .block<| .seq ?_
  obtain ⟨q,hq⟩:∃ q,(S)[k]? =some q:=⟨_,getElem?_eq_getElem c4⟩
  obtain ⟨hq2,hqm⟩:=Cy hS hq
  have hqo:OkP q.2:=by rw [hq2];exact ia k (by omega)
  have hpl:=jh hqo
  have htn:=cR (strOf (aE (oy q.2)))
  rw [bX,aY] at htn
  refine .region<| .ix 0 (s28.ah 4 rfl) rfl<| .le 0 (s28.ah 4 rfl) hq rfl<| .Z rfl<| .h<| .c 1 (vF _ (q.2) _ (s28.eu 5 rfl hq) (hqo)) rfl λ r10 _ h10=> ?_
  obtain ⟨pg1,pbv1,psv1,rfl,p10⟩:=h10
  have s29:=(s28.aD p10).mn
  refine .Z rfl<| .seq<| .Z rfl<| .ak rfl (rfl)<| .skip<| .region<| .c 2 (sI _ _ _ (q.2) _ (s29.cell (i:=6) (j:=0) rfl rfl) (s29.cell (i:=6) (j:=1) rfl rfl) (s29.cell (i:=6) (j:=2) rfl rfl) (s29.cell (i:=6) (j:=3) rfl rfl) (s29.ah 7 rfl) (s29.ah 8 rfl) (hqo)) rfl λ r11 _ h11=> ?_
  have s30:=(s29.aD h11).mn
  refine .e rfl (.dw underlying45 underlying9 underlying5 rfl (s30.ah 9 rfl)) ?_
  have A5:=s30.oc [0,1,2,3,4,5,6,7,8,9] 2
  refine .c 0 (dY _ _ _ _ _ (bs) (strOf (aE (oy (q.2)))) A5 (by rw [bX,aY];omega)) rfl λ r12 _ h12=> ?_
  obtain ⟨rfl,wv5,p12⟩:=h12
  have s31:=p12.join.od [0,1,2,3,4,5,6,7,8,9]
  refine .nil<| .U rfl ?_
  have s32:=s31.pt [0,1,2,3,4,5]
  exact bc (k+1,wv5,bs++dq (strOf (aE (oy (q.2))))) ⟨s32,by omega,by rw [po (gi rfl (kc _)),hq2,hbs];unfold xG;rw [Cx,append_assoc],by rw [length_append];omega⟩
 refine .ao<| .Z rfl<| .aC rfl rfl ?_
 have s33:=s28.pt [0,1]
 have he:bs=acc++kd lexB bQ at_ (fU c a):=by
  rw [hbs,show k=(aw us).length by omega,hsn,hl0,<-hu0];unfold kd;simp only [append_assoc]
 rw [he] at s33
 exact ⟨rfl,_,s33⟩
theorem Fo (w0 w:World) (cs:List Chunk) (g:Nat) (v:Value) (acc:List Nat) (n:Nat) (hs:Sat w0 ([aj g 66 [v],Gh v (a8 .u8) (acc)]++cs) w) (hn:n<2^62) (ha:acc.length<=100000000000):
  CallsV prog 28 [(.pointer (some ⟨g,0,none⟩)),(.int .i64 n)] w λ r w'=>r= .tuple #[]/\∃ v',Sat w0 ([aj g 66 [v'],cL v' 5 (a8 .u8) (acc++uv n)]++cs) w':=by
 refine ae func28 rfl rfl ?_
 refine .region<| .ld 4 hs 0 rfl<| .c 2 (cS v (acc) (n) _ (hs.oH 1 rfl) (by omega) (by omega)) rfl λ r1 _ h_1=> ?_
 have s1:=(hs.aD h_1).mn
 refine .st 2 s1 0 rfl (h1:=(s1.ah 2 rfl).a7) λ _ s2 _=> ?_
 have s2d:=s2.sn
 refine .nil ?_
 show aK _ _ _ _ _ _
 refine bt rfl ?_
 have s3:=s2d.pt [0,2]
 exact ⟨rfl,_,s3⟩
theorem kB (us:List ByteArray):B8 (lexB us):=gV (iX _ _ _)
theorem kC (l:List Nat):B8 (bQ l):=gV (oM (ed l))
theorem C5 {n:Nat} {c:Co} (h:OkC n c) (hn:n<=3) {a:Nat} {at_:ByteArray×Bool} (hat:c.at_[a]? =some at_):(kd lexB bQ at_ (fU c a)).length<=5000000:=by
 obtain ⟨_,hus⟩:=xj h hn (ch hat)
 have h0:=h.ntk
 have h1:=mI hus;have h2:=mJ hus.1;have h3:=cR at_.1;have h4:=bJ (h.at_.1 a at_ hat).1
 have h5:=bZ (fU c a);have h6:=nM c a
 have h7:(cZ (fU c a)).length<=4096:=by unfold cZ;rw [length_map];omega
 have h8:=JC h7 (aw (fU c a)).length
 have h9:=aN (if at_.2 then 1 else 0);have h10:=aN (lexB (fU c a)).length;have h11:=aN (bQ (cZ (fU c a))).length
 unfold kd mq
 simp only [length_append]
 omega
theorem gj (c:Co) (n:Nat) (w:World) (hr:RdC w c) (ho:OkC n c) (hn:n<=3):
  CallsV prog 11 [(.agg #[c.va,c.vt,c.vx,c.vr,c.vn,c.vh,c.vl])] w λ r w'=>r= .tuple #[.string (strOf (aE (di lexB bQ c.v))),.int .i64 ((0:Nat):Int)]/\Sat w [] w':=by
 have htk:=ho.ntk
 have htx:=ho.ntx
 have hrg:=ho.nrg
 have hnd:=ho.nnd
 have hat:=ho.at_.2
 have hu1:=aN c.at_.length
 have hu2:=aN c.tx.length
 have hu3:=aN c.rg.length
 have hs0:=Sat.start w
 refine ae func11 rfl rfl ?_
 refine .h<| .bx 0 hs0 rfl λ b1 _ s1 _ _=> .Z rfl<| .seq<| .h<| .lo 0 s1 0 rfl<| .cp 0 s1 (yb c _ _ (hr.ext s1.ext) ho hn) rfl λ _ s2=> .Z rfl<| .Z rfl<| .ak rfl (rfl)<| .skip<| .h<| .f rfl (.iU (a8 .u8) [67,83,49] cg rfl ⟨rfl,rfl,rfl,trivial⟩ rfl rfl rfl rfl (by decide) (by decide) s2 λ v1 _ s3 _=> ?_)
 have s3:=s3.nn
 refine .f rfl (.KR 1 underlying45 underlying5 s3 rfl rfl (by decide) λ _ s4=> ?_)
 refine .e rfl (.build Px rfl ⟨(s4.oH 1 rfl).a7,trivial⟩ rfl)<| .bx 0 s4 rfl λ b2 _ s5 _ _=> .Z rfl<| .seq ?_
 have s6:=(Sat.order [2,1,0] (by decide) s5.tail).aF.pk [0,1,2]
 have hlx:=ho.Pb (Nat.le_trans hn (by decide))
 refine .region<| .ld 2 s6 2 rfl<| .ln 0 (hr.a.ext s6.ext) rfl ?_
 have A1:=s6.tail.oc [0,1,2] 2
 refine .c 0 (Fo _ _ _ _ _ ([67,83,49]) (c.at_.length) A1 (by omega) (by decide)) rfl λ r2 _ h2=> ?_
 obtain ⟨rfl,wv1,p2⟩:=h2
 have s7:=(Sat.order [0,1,2] (by decide) p2.join).aF.nn
 refine .nil<| .seq<| .h<| .ld 1 s7 2 rfl<| .ln 0 (hr.a.ext s7.ext) rfl<| .Z rfl<| .block<| .lq [0,1,6,7,34] rfl (α:=Nat×Value×List Nat) (λ (k,sv,bs)=>[(35,(.int .i64 k))]) (λ (k,sv,bs) w'=>Sat w (s7.U [(0,aj b2 66 [sv]),(1,cL sv 5 (a8 .u8) (bs))]) w'/\(k<=c.at_.length)/\(bs=[67,83,49]++uv c.at_.length++ib lexB bQ c.v.at_ c.v.tk k)/\(bs.length<=13+5000000*k)) (λ (k,sv,bs)=>c.at_.length-k) (0,wv1,[67,83,49]++uv (c.at_.length)) ⟨s7,Nat.zero_le _,by simp [ib],by rw [length_append];simp only [length_cons,length_nil];omega⟩ ?_
 rintro ⟨k,sv,bs⟩ w7 ⟨s8,hk,hbs,hbl⟩
 refine .Z rfl<| .seq<| .ab rfl (λ c1=> ?_) λ c1=> ?_
 ·refine .skip<| .seq<| .block<| .seq ?_
  obtain ⟨x,hx⟩:∃ x,(c.at_)[k]? =some x:=⟨_,getElem?_eq_getElem c1⟩
  have hcl:=C5 ho hn hx
  refine .U rfl<| .h<| .lo 1 s8 2 rfl<| .z 1 rfl ?_
  have A2:=s8.tail.oc [0,1,2] 2
  refine .c 0 (J5 _ _ _ _ _ (bs) c _ hr ho hn (k) x A2 hx (by omega)) rfl λ r3 _ h3=> ?_
  obtain ⟨rfl,wv2,p3⟩:=h3
  have s9:=(Sat.order [0,1,2] (by decide) p3.join).aF.nn
  refine .Z rfl<| .Z rfl<| .ak rfl (rfl)<| .skip<| .U rfl ?_
  exact bc (k+1,wv2,bs++kd lexB bQ x (fU c k)) ⟨s9,by omega,by rw [Eg hx,hbs];simp only [append_assoc],by rw [length_append];omega⟩
 refine .ao<| .h<| .ld 2 s8 2 rfl<| .ln 0 (hr.x.ext s8.ext) rfl ?_
 have A3:=s8.tail.oc [0,1,2] 2
 refine .c 0 (gP _ _ _ _ _ (bs) (c.tx.length) A3 (by omega) (by (try simp only [length_append]);omega)) rfl λ r4 _ h4=> ?_
 obtain ⟨rfl,wv3,p4⟩:=h4
 have s10:=(Sat.order [0,1,2] (by decide) p4.join).aF.nn
 refine .nil<| .seq<| .h<| .ld 1 s10 2 rfl<| .ln 0 (hr.x.ext s10.ext) rfl<| .Z rfl<| .block<| .lq [0,1,6,7,34,52,53] rfl (α:=Nat×Value×List Nat) (λ (k,sv,bs)=>[(54,(.int .i64 k))]) (λ (k,sv,bs) w'=>Sat w (s10.U [(0,aj b2 66 [sv]),(1,cL sv 5 (a8 .u8) (bs))]) w'/\(k<=c.tx.length)/\(bs=[67,83,49]++uv c.at_.length++ib lexB bQ c.v.at_ c.v.tk c.at_.length++uv c.tx.length++(c.tx.take k).flatMap (λ x=>ic x.v))/\(bs.length<=40000100+2000*k)) (λ (k,sv,bs)=>c.tx.length-k) (0,wv3,bs++uv (c.tx.length)) ⟨s10,Nat.zero_le _,by rw [hbs,show k=c.at_.length by omega];simp,by rw [length_append];omega⟩ ?_
 rintro ⟨k,sv,bs⟩ w10 ⟨s11,hk,hbs,hbl⟩
 refine .Z rfl<| .seq<| .ab rfl (λ c2=> ?_) λ c2=> ?_
 ·refine .skip<| .seq<| .block<| .seq ?_
  obtain ⟨x,hx⟩:∃ x,(c.tx)[k]? =some x:=⟨_,getElem?_eq_getElem c2⟩
  have hxo:=ho.tx.nm x (aa hx)
  have hns:=bJ hxo.1
  have ht1:(ic x.v).length<=2000:=CC hns hxo.2.1
  have ht2:=cR x.nm
  have ht3:=aN (x.e-x.b).toNat
  have ht4:=rH hxo.2.1
  refine .region<| .ix 0 (hr.x.ext s11.ext) rfl<| .lg 0 (hr.x.ext s11.ext) hx rfl<| .al 0 s11 rfl λ b3 _ s12 _ _=> .sa 0 s12 3 rfl ((aG).one _) λ _ s13 _=> .nil<| .h<| .ld 2 s13 3 rfl ?_
  have A4:=s13.tail.oc [0,1,2,3] 2
  refine .c 0 (dY _ _ _ _ _ (bs) x.nm A4 (by (try simp only [length_append]);omega)) rfl λ r5 _ h5=> ?_
  obtain ⟨rfl,wv4,p5⟩:=h5
  have s14:=(Sat.order [0,1,2,3] (by decide) p5.join).aF.nn
  refine .nil<| .h<| .ld 2 s14 3 rfl<| .ld 1 s14 3 rfl<| .e rfl (.sub rfl rfl (by unfold bo;omega)) ?_
  have A5:=s14.tail.oc [0,1,2,3] 2
  refine .c 0 (gr _ _ _ _ _ (bs++dq x.nm) ((x.e-x.b)) A5 (by omega) (by (try simp only [length_append]);omega)) rfl λ r6 _ h6=> ?_
  obtain ⟨rfl,wv5,p6⟩:=h6
  have s15:=(Sat.order [0,1,2,3] (by decide) p6.join).aF.nn
  refine .nil<| .region<| .ld 2 s15 3 rfl ?_
  have A6:=s15.tail.oc [0,1,2,3] 2
  refine .c 0 (vG _ _ _ _ _ (bs++dq x.nm++uv ((x.e-x.b)).toNat) _ (x.ps) A6 (hr.xr _ (aa hx)) (hxo.2.1) (by (try simp only [length_append]);omega)) rfl λ r7 _ h7=> ?_
  obtain ⟨rfl,wv6,p7⟩:=h7
  have s16:=(Sat.order [0,1,2,3] (by decide) p7.join).aF.nn
  refine .nil<| .U rfl ?_
  exact bc (k+1,wv6,bs++dq x.nm++uv ((x.e-x.b)).toNat++rU x.ps) ⟨s16.pk [0,1,2],by omega,by rw [rG hx,hbs];simp only [append_assoc];rfl,by have e:(ic x.v).length=(dq x.nm++(uv (x.e-x.b).toNat++rU x.ps)).length:=rfl;simp only [length_append] at e⊢;omega⟩
 refine .ao<| .h<| .ld 2 s11 2 rfl<| .ln 0 (hr.r.ext s11.ext) rfl ?_
 have A7:=s11.tail.oc [0,1,2] 2
 refine .c 0 (gP _ _ _ _ _ (bs) (c.rg.length) A7 (by omega) (by (try simp only [length_append]);omega)) rfl λ r8 _ h8=> ?_
 obtain ⟨rfl,wv7,p8⟩:=h8
 have s18:=(Sat.order [0,1,2] (by decide) p8.join).aF.nn
 refine .nil<| .Z rfl<| .seq<| .h<| .ld 1 s18 2 rfl<| .ln 0 (hr.r.ext s18.ext) rfl<| .Z rfl<| .block<| .lq [0,1,6,7,34,52,53,80,81] rfl (α:=Nat×Value×List Nat×Int) (λ (k,sv,bs,bf)=>[(12,(.int .i64 (bf))),(82,(.int .i64 k))]) (λ (k,sv,bs,bf) w'=>Sat w (s18.U [(0,aj b2 66 [sv]),(1,cL sv 5 (a8 .u8) (bs))]) w'/\(k<=c.rg.length)/\(bs=[67,83,49]++uv c.at_.length++ib lexB bQ c.v.at_ c.v.tk c.at_.length++uv c.tx.length++c.tx.flatMap (λ x=>ic x.v)++uv c.rg.length++fD 0 ((c.rg.take k).map Iv.v))/\(bs.length<=40200200+2000*k)/\(bf=(MB 0 ((c.rg.take k).map Iv.v)))/\(0<=bf)) (λ (k,sv,bs,bf)=>c.rg.length-k) (0,wv7,bs++uv (c.rg.length),0) ⟨s18,Nat.zero_le _,by rw [hbs,take_of_length_le (by omega)];simp [fD],by rw [length_append];omega,rfl,Int.le_refl _⟩ ?_
 rintro ⟨k,sv,bs,bf⟩ w17 ⟨s19,hk,hbs,hbl,hbf,hb0⟩
 refine .Z rfl<| .seq<| .ab rfl (λ c3=> ?_) λ c3=> ?_
 ·refine .skip<| .seq<| .block<| .seq ?_
  obtain ⟨x,hx⟩:∃ x,(c.rg)[k]? =some x:=⟨_,getElem?_eq_getElem c3⟩
  have hxo:=ho.rg.el x (aa hx)
  have hns:=bJ hxo.1
  have hbd:=hxo.2.1.bd ho.tx
  have ht1:=λ bf=>CA (bf:=bf) (x:=x.v) hns hxo.2.2
  have ht2:=cR x.nm
  have ht3:=aN (x.e-x.b).toNat
  have ht4:=rH hxo.2.2
  have ht5:=aN (x.b-bf).toNat
  have hlb:bf<=x.b:=by rw [hbf,map_take];exact Lc hlx.rc (by rw [show c.v.rg=c.rg.map Iv.v from rfl,getElem?_map,hx]<;>rfl)
  refine .region<| .ix 0 (hr.r.ext s19.ext) rfl<| .lg 0 (hr.r.ext s19.ext) hx rfl<| .al 0 s19 rfl λ b4 _ s20 _ _=> .sa 0 s20 3 rfl ((aG).one _) λ _ s21 _=> .nil<| .h<| .ld 2 s21 3 rfl ?_
  have A8:=s21.tail.oc [0,1,2,3] 2
  refine .c 0 (dY _ _ _ _ _ (bs) x.nm A8 (by (try simp only [length_append]);omega)) rfl λ r9 _ h9=> ?_
  obtain ⟨rfl,wv8,p9⟩:=h9
  have s22:=(Sat.order [0,1,2,3] (by decide) p9.join).aF.nn
  refine .nil<| .h<| .ld 2 s22 3 rfl<| .a 1 rfl (.sub rfl rfl (by unfold bo;omega)) ?_
  have A9:=s22.tail.oc [0,1,2,3] 2
  refine .c 0 (gr _ _ _ _ _ (bs++dq x.nm) ((x.b-bf)) A9 (by omega) (by (try simp only [length_append]);omega)) rfl λ r10 _ h10=> ?_
  obtain ⟨rfl,wv9,p10⟩:=h10
  have s23:=(Sat.order [0,1,2,3] (by decide) p10.join).aF.nn
  refine .nil<| .h<| .ld 2 s23 3 rfl<| .ld 1 s23 3 rfl<| .e rfl (.sub rfl rfl (by unfold bo;omega)) ?_
  have A10:=s23.tail.oc [0,1,2,3] 2
  refine .c 0 (gr _ _ _ _ _ (bs++dq x.nm++uv ((x.b-bf)).toNat) ((x.e-x.b)) A10 (by omega) (by (try simp only [length_append]);omega)) rfl λ r11 _ h11=> ?_
  obtain ⟨rfl,wv10,p11⟩:=h11
  have s24:=(Sat.order [0,1,2,3] (by decide) p11.join).aF.nn
  refine .nil<| .h<| .ld 2 s24 3 rfl ?_
  have A11:=s24.tail.oc [0,1,2,3] 2
  refine .c 0 (vG _ _ _ _ _ (bs++dq x.nm++uv ((x.b-bf)).toNat++uv ((x.e-x.b)).toNat) _ (x.ps) A11 (hr.rr _ (aa hx)) (hxo.2.2) (by (try simp only [length_append]);omega)) rfl λ r12 _ h12=> ?_
  obtain ⟨rfl,wv11,p12⟩:=h12
  have s25:=(Sat.order [0,1,2,3] (by decide) p12.join).aF.nn
  refine .nil<| .region<| .ld 1 s25 3 rfl<| .Z rfl<| .U rfl ?_
  exact bc (k+1,wv11,bs++dq x.nm++uv ((x.b-bf)).toNat++uv ((x.e-x.b)).toNat++rU x.ps,x.b) ⟨s25.pk [0,1,2],by omega,by rw [(Cz hx).1,hbs,<-hbf];simp only [append_assoc];rfl,by have e:(Ll bf x.v).length=(dq x.nm++(uv (x.b-bf).toNat++(uv (x.e-x.b).toNat++rU x.ps))).length:=rfl;have:=ht1 bf;simp only [length_append] at e⊢;omega,(Cz hx).2.symm,by omega⟩
 refine .ao<| .h<| .lo 1 s19 2 rfl ?_
 have A12:=s19.tail.oc [0,1,2] 2
 refine .c 0 (DN _ _ _ _ _ (bs) c _ hr ho hn A12 (by omega)) rfl λ r13 _ h13=> ?_
 obtain ⟨rfl,wv12,p13⟩:=h13
 have s27:=(Sat.order [0,1,2] (by decide) p13.join).aF.nn
 refine .nil<| .seq ?_
 have hfin:bs++Gq c.nd c.hd c.rl=di lexB bQ c.v:=by rw [hbs,take_of_length_le (by omega)];rw [rI];simp only [append_assoc]
 refine .region<| .ld 3 s27 0 rfl<| .c 0 (rq _ (bs++Gq c.nd c.hd c.rl) _ (s27.ah 1 rfl) (by rw [hfin];exact tK kB kC _) (by rw [length_append];have:=CD ho hn;omega)) rfl λ r14 _ h14=> ?_
 have s28:=s27.aD h14
 refine .e rfl (.dw underlying45 underlying9 underlying5 rfl (s28.ah 3 rfl))<| .Z rfl<| .bG rfl rfl rfl ?_
 rw [hfin]
 exact ⟨rfl,s28.pk []⟩
theorem RdL.to {α:Type} {w:World} {v:Value} {E:Enc α} {l l':List α} (h:RdL w v E l) (e:l=l'):RdL w v E l':=e▸h
def Ii (l:List Nat):List Nat:=aJ (dn 0 l)++ED (jA l l.length) (jA l l.length).length
def yr (l:List Nat):List Nat:=uv (dn 0 l).length++Ii l
theorem Fp (l:List Nat):oy l=uv l.length++yr l:=by unfold oy yr Ii;simp only [append_assoc]
theorem jC {n:Nat} (r:List Nat):((uv n++r).take (uv n++r).length).drop (uv n).length=r:=by rw [take_length,drop_left]
theorem AR (v:Value) (b l:List Nat) (w:World) (hv:RdL w v (a8 .u8) b) (hl:OkP l) (he:b=aE (oy l)):
  CallsV prog 156 [v] w λ r w'=>∃ g bv sv,r= .tuple #[.pointer (some ⟨g,0,none⟩),.int .i64 ((0:Nat):Int)]/\Sat w [aj g 173 [.int .i64 (l.length:Int),.int .i64 ((dn 0 l).length:Int),bv,sv],cL bv 5 (a8 .u8) (aJ (dn 0 l)),cL sv 192 sG (jA l l.length)] w':=by
 have hln:=hl.len
 have hgl:=kb l 0 hl.lt
 have hpl:=aR (dn 0 l)
 have hpe:=Fp l
 have hpn:=jh hl
 have hql:(oy l).length=(uv l.length).length+((uv (dn 0 l).length).length+(Ii l).length):=by rw [hpe];unfold yr;simp only [length_append]
 have hp8:(Ii l).length=((dn 0 l).length+7)/8+(ED (jA l l.length) (jA l l.length).length).length:=by unfold Ii;rw [length_append,hpl]
 have hbl:∀ x∈oy l,x<256:=kc l
 obtain ⟨R,hR⟩:∃ R,R=yr l:=⟨_,rfl⟩
 have hbR:∀ x∈R,x<256:=λ x hx=>hbl x (by rw [hpe,<-hR];exact mem_append_right _ hx)
 have hRl:R.length=(uv (dn 0 l).length).length+(Ii l).length:=by rw [hR];unfold yr;rw [length_append]
 have hs0:=Sat.start w
 refine ae func156 rfl rfl ?_
 refine .Z rfl<| .h<| .c 1 (sF _ (b) (oy l) _ (hv.ext hs0.ext) (he) (kc l) (by omega)) rfl λ r1 _ h1=> ?_
 obtain ⟨uv1,rfl,p1⟩:=h1
 have s1:=hs0.aD p1
 refine .Z rfl ?_
 have s2:=s1.cF 0 rfl (show oy l=uv l.length++yr l from Fp l)
 refine .seq<| .Z rfl<| .ak rfl (rfl)<| .skip<| .h<| .cq 1 s2 (eZ _ (uv l.length++yr l) _ (s2.ah 0 rfl) ((by first|exact hbR|(intro x hx;exact hbl x (by rw [hpe];exact hx))))) rfl λ _ s3=> .Z rfl ?_
 have hn1:=pM (x:=l.length) (by omega) (yr l)
 refine .weaken [(0,_),(2,_),(3,_),(4,_),(5,_),(6,(.int .u64 l.length)),(7,_),(12,_),(13,_),(14,_),(15,_),(16,_),(17,_),(19,_),(20,_),(21,_),(22,_),(23,_),(24,_)] ⟨rfl,rfl,rfl,rfl,rfl,congrArg some (show _=Value.int .u64 ((l.length:Nat):Int) from congrArg (λ q:Nat×Nat×Nat=>Value.int .u64 ((q.1:Nat):Int)) hn1),rfl,rfl,rfl,rfl,rfl,rfl,rfl,rfl,rfl,rfl,rfl,rfl,rfl,trivial⟩<| .weaken [(0,_),(2,_),(3,_),(4,_),(5,_),(6,_),(7,(.int .i64 ((uv (l.length)).length:Nat))),(12,_),(13,_),(14,_),(15,_),(16,_),(17,_),(19,_),(20,_),(21,_),(22,_),(23,_),(24,_)] ⟨rfl,rfl,rfl,rfl,rfl,rfl,congrArg some (show _=Value.int .i64 (((uv (l.length)).length:Nat):Int) from congrArg (λ q:Nat×Nat×Nat=>Value.int .i64 ((q.2.1:Nat):Int)) hn1),rfl,rfl,rfl,rfl,rfl,rfl,rfl,rfl,rfl,rfl,rfl,rfl,trivial⟩<| .weaken [(0,_),(2,_),(3,_),(4,_),(5,(.int .i64 (0:Nat))),(6,_),(7,_),(12,_),(13,_),(14,_),(15,_),(16,_),(17,_),(19,_),(20,_),(21,_),(22,_),(23,_),(24,_)] ⟨rfl,rfl,rfl,rfl,congrArg some (show _=Value.int .i64 ((0:Nat):Int) from congrArg (λ q:Nat×Nat×Nat=>Value.int .i64 ((q.2.2:Nat):Int)) hn1),rfl,rfl,rfl,rfl,rfl,rfl,rfl,rfl,rfl,rfl,rfl,rfl,rfl,rfl,trivial⟩<| .seq<| .Z rfl<| .ak rfl (decide_eq_false (by omega))<| .skip<| .h<| .a 2 rfl (.bk (E:=a8 .u8) (a:=(uv (l.length)).length) (c:=(uv l.length++yr l).length) cg rfl (s3.ah 0 rfl) ⟨_,rfl⟩ rfl (by simp only [length_append];omega) (Nat.le_refl _))<| .Z rfl<| .h<| .cp 1 s3 (eZ _ (R) _ (RdL.to (((s3.ah 0 rfl)).sub (a:=(uv (l.length)).length) (b:=(uv l.length++yr l).length) (by simp only [length_append];omega) (Nat.le_refl _)) ((jC (yr l)).trans hR.symm)) ((by first|exact hbR|(intro x hx;exact hbl x (by rw [hpe];exact hx))))) rfl λ _ s4=> .Z rfl<| .trim [0,2,3,4,5,6,7,8] rfl ?_
 have hn2:ga R=((dn 0 l).length,(uv (dn 0 l).length).length,0):=by rw [hR];exact pM (x:=(dn 0 l).length) (by omega) (Ii l)
 refine .weaken [(0,_),(2,_),(3,_),(4,_),(5,_),(6,_),(7,_),(8,(.int .u64 (Nat.cast ((dn 0 l).length):Int)))] ⟨rfl,rfl,rfl,rfl,rfl,rfl,rfl,congrArg some (show _=Value.int .u64 (((dn 0 l).length:Nat):Int) from congrArg (λ q:Nat×Nat×Nat=>Value.int .u64 ((q.1:Nat):Int)) hn2),trivial⟩<| .weaken [(0,_),(2,_),(3,_),(4,_),(5,_),(6,_),(7,(.int .i64 (Nat.cast ((uv ((dn 0 l).length)).length):Int))),(8,_)] ⟨rfl,rfl,rfl,rfl,rfl,rfl,congrArg some (show _=Value.int .i64 (((uv ((dn 0 l).length)).length:Nat):Int) from congrArg (λ q:Nat×Nat×Nat=>Value.int .i64 ((q.2.1:Nat):Int)) hn2),rfl,trivial⟩<| .weaken [(0,_),(2,_),(3,_),(4,_),(5,(.int .i64 (0:Nat))),(6,_),(7,_),(8,_)] ⟨rfl,rfl,rfl,rfl,congrArg some (show _=Value.int .i64 ((0:Nat):Int) from congrArg (λ q:Nat×Nat×Nat=>Value.int .i64 ((q.2.2:Nat):Int)) hn2),rfl,rfl,rfl,trivial⟩<| .seq<| .h<| .ln 5 (RdL.to (((s4.ah 0 rfl)).sub (a:=(uv (l.length)).length) (b:=(uv l.length++yr l).length) (by simp only [length_append];omega) (Nat.le_refl _)) ((jC (yr l)).trans hR.symm)) rfl<| .Z rfl<| .ak rfl (decide_eq_false (by omega))<| .skip<| .seq ?_
 have hq9:(R.take R.length).drop (uv (dn 0 l).length).length=Ii l:=by rw [hR];exact jC (Ii l)
 refine .region<| .a 2 rfl (.bk (E:=a8 .u8) (a:=(uv ((dn 0 l).length)).length) (c:=(R).length) cg rfl (RdL.to (((s4.ah 0 rfl)).sub (a:=(uv (l.length)).length) (b:=(uv l.length++yr l).length) (by simp only [length_append];omega) (Nat.le_refl _)) ((jC (yr l)).trans hR.symm)) ⟨_,rfl⟩ rfl (by omega) (Nat.le_refl _))<| .c 4 (J4 _ (((R).take ((R).length)).drop ((uv ((dn 0 l).length)).length)) (l) _ (((RdL.to (((s4.ah 0 rfl)).sub (a:=(uv (l.length)).length) (b:=(uv l.length++yr l).length) (by simp only [length_append];omega) (Nat.le_refl _)) ((jC (yr l)).trans hR.symm))).sub (a:=(uv ((dn 0 l).length)).length) (b:=(R).length) (by omega) (Nat.le_refl _)) (by rw [hq9];omega) (by rw [hq9];unfold Ii;rw [<-hpl,take_left]) (by rw [hq9];omega) (hl)) rfl λ r4 _ h4=> ?_
 obtain ⟨pv1,rfl,p4⟩:=h4
 have s5:=s4.aD p4
 refine .Z rfl<| .seq<| .Z rfl<| .ak rfl (rfl)<| .skip<| .h<| .c 1 (vF _ (l) _ (s5.ah 1 rfl) (hl)) rfl λ r5 _ h5=> ?_
 obtain ⟨pg1,pbv1,psv1,rfl,p5⟩:=h5
 have s6:=(s5.aD p5).nn
 refine .Z rfl<| .seq<| .h<| .c 4 (sI _ _ _ (l) _ (s6.cell (i:=2) (j:=0) rfl rfl) (s6.cell (i:=2) (j:=1) rfl rfl) (s6.cell (i:=2) (j:=2) rfl rfl) (s6.cell (i:=2) (j:=3) rfl rfl) (s6.ah 3 rfl) (s6.ah 4 rfl) (hl)) rfl λ r6 _ h6=> ?_
 have s7:=s6.aD h6
 refine .cp 1 s7 (wT _ _ (aE (oy (l))) (b) _ (s7.ah 5 rfl) (hv.ext s7.ext) (gi rfl (kc l)) (gi he (kc l))) rfl λ _ s8=> .a 0 rfl (.jz rfl)<| .Z rfl<| .ak rfl (decide_eq_false (λ h=>h he.symm))<| .skip<| .seq<| .trim [0,2,3,4,5,6,7,8,9,10,11] rfl<| .U rfl<| .bG rfl rfl rfl ?_
 exact ⟨_,_,_,rfl,s8.pk [2,3,4]⟩
end Go.Proofs.YthffkcnbdehceaaGreat
