/-The walks of the functions of F41,printed by our own program (kwgen.py) out of our descriptions (base.py). -/
import Derived.Test.YthffkcnbdehceaaGreatF06v
import Derived.Test.YthffkcnbdehceaaGreatF16t
import Derived.Test.YthffkcnbdehceaaGreatKrt
import Derived.Test.YthffkcnbdehceaaGreatM02v
open List
open Go.Proofs.Tryz
set_option linter.unusedVariables false
set_option linter.unusedSimpArgs false
set_option linter.unusedSectionVars false
namespace Go.Proofs.YthffkcnbdehceaaGreat
open Go.RowKit Go.Kw
set_option maxRecDepth 100000
theorem gZ (w0 w:World) (cs:List Chunk) (g:Nat) (v:Value) (acc:List Nat) (n:Nat) (hs:Sat w0 ([aq g 66 [v],cL v 5 (aa .u8) (acc)]++cs) w) (hn:n<2^62) (ha:acc.length<=100000000000):
  CallsV prog 28 [(.pointer (some ⟨g,0,none⟩)),(.int .i64 n)] w λ r w'=>r= .tuple #[]/\∃ v',Sat w0 ([aq g 66 [v'],cL v' 5 (aa .u8) (acc++uv n)]++cs) w':=by
 refine ai func28 rfl rfl ?_
 refine .region<| .ld 4 hs 0 rfl<| .c 2 (dj v (acc) (n) _ (hs.ah 1 rfl) (by omega) (by omega)) rfl λ r1 _ h_1=> ?_
 have s1:=(hs.az h_1).mn
 refine .st 2 s1 0 rfl (h1:=(s1.ah 2 rfl).ab) λ _ s2 _=> ?_
 have s2d:=s2.sn
 refine .nil ?_
 show aL _ _ _ _ _ _
 refine cv rfl ?_
 have s3:=s2d.pt [0,2]
 exact ⟨rfl,_,s3⟩
theorem gz (w0 w:World) (cs:List Chunk) (g:Nat) (v:Value) (acc:List Nat) (z:Int) (hs:Sat w0 ([aq g 66 [v],cL v 5 (aa .u8) (acc)]++cs) w) (hz:0<=z/\z<2^62) (ha:acc.length<=100000000000):CallsV prog 28 [.pointer (some ⟨g,0,none⟩),.int .i64 z] w λ r w'=>r= .tuple #[]/\∃ v',Sat w0 ([aq g 66 [v'],cL v' 5 (aa .u8) (acc++uv z.toNat)]++cs) w':=by
 obtain ⟨n,rfl⟩:=Int.eq_ofNat_of_zero_le hz.1
 exact gZ w0 w cs g v acc n hs (by omega) ha
theorem ef (w0 w:World) (cs:List Chunk) (g:Nat) (v:Value) (acc:List Nat) (s:ByteArray) (hs:Sat w0 ([aq g 66 [v],cL v 5 (aa .u8) (acc)]++cs) w) (ha:acc.length+s.size<=10000000000):
  CallsV prog 30 [(.pointer (some ⟨g,0,none⟩)),(.string s)] w λ r w'=>r= .tuple #[]/\∃ v',Sat w0 ([aq g 66 [v'],cL v' 5 (aa .u8) (acc++cr s)]++cs) w':=by
 have hu:=aD s.size
 refine ai func30 rfl rfl ?_
 refine .h<| .a 2 rfl (.bo underlying9 rfl) ?_
 have A1:=hs.oc [0,1] 2
 refine .c 0 (gZ _ _ _ _ _ (acc) (s.size) A1 (by omega) (by omega)) rfl λ r1 _ h_1=> ?_
 obtain ⟨rfl,wv1,p1⟩:=h_1
 have s1:=p1.join.od [0,1]
 refine .nil<| .region<| .ld 4 s1 0 rfl<| .b 1 rfl (.gu 1 ch s1 rfl rfl rfl (oq underlying9 _) (by simp only [sp,ay];omega) (by simp only [sp,ay];omega) λ v1 _ s2 _=> ?_)
 have s2d:=s2.sn
 refine .st 2 s2d 0 rfl (h1:=(s2d.ah 1 rfl).ab) λ _ s3 _=> ?_
 have s3d:=s3.sn
 refine .nil ?_
 show aL _ _ _ _ _ _
 refine cv rfl ?_
 have s4:=s3d.pt [0,1]
 have s5:=(s4.aZ 1 rfl (show acc++uv (s.size)++bF s=acc++cr s from by unfold cr;rw [LW])).sn
 exact ⟨rfl,_,s5⟩
theorem tH (w0 w:World) (cs:List Chunk) (g:Nat) (v:Value) (acc:List Nat) (vp:Value) (ps:List Pr) (hs:Sat w0 ([aq g 66 [v],cL v 5 (aa .u8) (acc)]++cs) w) (hv:RdL w0 vp aU ps) (h:okPs ps) (ha:acc.length<=1000000000):
  CallsV prog 31 [(.pointer (some ⟨g,0,none⟩)),vp] w λ r w'=>r= .tuple #[]/\∃ v',Sat w0 ([aq g 66 [v'],cL v' 5 (aa .u8) (acc++pw ps)]++cs) w':=by
 have h8:=h.1
 have hu:=aD ps.length
 refine ai func31 rfl rfl ?_
 refine .h<| .ln 2 (hv.ext hs.ext) rfl ?_
 have A1:=hs.oc [0,1] 2
 refine .c 0 (gZ _ _ _ _ _ (acc) (ps.length) A1 (by omega) (by omega)) rfl λ r1 _ h1=> ?_
 obtain ⟨rfl,wv1,p1⟩:=h1
 have s1:=p1.join.od [0,1]
 refine .nil<| .h<| .ln 1 (hv.ext s1.ext) rfl<| .Z rfl<| .block ?_
 have s2:=s1.pt [0,1]
 refine .lq [0,1,10,11] rfl (α:=Nat×Value×List Nat) (λ (k,sv,bs)=>[(12,(.int .i64 k))]) (λ (k,sv,bs) w'=>Sat w0 ([aq g 66 [sv],cL sv 5 (aa .u8) (bs)]++cs) w'/\(k<=ps.length)/\(bs=acc++uv ps.length++(ps.take k).flatMap (λ p:Pr=>cr p.1++cr p.2))/\(bs.length<=acc.length+10+172*k)) (λ (k,sv,bs)=>ps.length-k) (0,wv1,acc++uv (ps.length)) ⟨s2,KD _,by simp,by rw [sp];omega⟩ ?_
 rintro ⟨k,sv,bs⟩ w2 ⟨s3,hk,hbs,hbl⟩
 refine .Z rfl<| .seq<| .ae rfl (λ c1=> ?_) λ c1=> ?_
 ·refine .skip<| .seq<| .block<| .seq ?_
  obtain ⟨x,hx⟩:∃ x,(ps)[k]? =some x:=⟨_,py c1⟩
  have hz:=BC h hx
  have ht1:=bK x.1
  have ht2:=bK x.2
  refine .region<| .ix 0 (hv.ext s3.ext) rfl<| .lg 0 (hv.ext s3.ext) hx rfl<| .al 0 s3 rfl λ b1 _ s4 _ _=> ?_
  have s4d:=s4.mn
  refine .sa 0 s4d 2 rfl ((aU).one _) λ _ s5 _=> ?_
  have s5d:=s5.sn
  refine .nil<| .h<| .ld 2 s5d 2 rfl ?_
  have A2:=s5d.oc [0,1,2] 2
  refine .c 0 (ef _ _ _ _ _ (bs) x.1 A2 (by (try simp only [sp]);omega)) rfl λ r2 _ h2=> ?_
  obtain ⟨rfl,wv2,p2⟩:=h2
  have s6:=p2.join.od [0,1,2]
  refine .nil<| .region<| .ld 2 s6 2 rfl ?_
  have A3:=s6.oc [0,1,2] 2
  refine .c 0 (ef _ _ _ _ _ (bs++cr x.1) x.2 A3 (by (try simp only [sp]);omega)) rfl λ r3 _ h3=> ?_
  obtain ⟨rfl,wv3,p3⟩:=h3
  have s7:=p3.join.od [0,1,2]
  refine .nil<| .U rfl ?_
  have s8:=s7.pt [0,1]
  exact aT (k+1,wv3,bs++cr x.1++cr x.2) ⟨s8,by omega,by rw [ij hx,hbs];simp only [LW],by (try simp only [sp]);omega⟩
 refine .ao ?_
 show aL _ _ _ _ _ _
 refine cv rfl ?_
 have he:bs=acc++pw ps:=by rw [hbs,PV (by omega)];unfold pw;rw [LW]
 rw [he] at s3
 exact ⟨rfl,_,s3⟩
theorem CR (w0 w:World) (cs:List Chunk) (g:Nat) (v:Value) (acc:List Nat) (c:Co) (n:Nat) (hr:RdC w0 c) (ho:OkC n c) (hn:n<=3) (hs:Sat w0 ([aq g 66 [v],cL v 5 (aa .u8) (acc)]++cs) w) (ha:acc.length<=1000000000):
  CallsV prog 32 [(.pointer (some ⟨g,0,none⟩)),(.agg #[c.va,c.vt,c.vx,c.vr,c.vn,c.vh,c.vl])] w λ r w'=>r= .tuple #[]/\∃ v',Sat w0 ([aq g 66 [v'],cL v' 5 (aa .u8) (acc++E1 c.nd c.hd c.rl)]++cs) w':=by
 have htk:=ho.ntk
 have hnd:=ho.nnd
 have hhl:=ho.HE hn
 have hu4:=aD c.nd.length
 have hu5:=aD c.hd.length
 refine ai func32 rfl rfl ?_
 refine .h<| .bx 0 hs rfl λ b1 _ s1 _ _=> ?_
 have s1d:=s1.mn
 refine .nil<| .h<| .ld 2 s1d 2 rfl<| .ln 0 (hr.n.ext s1d.ext) rfl ?_
 have A1:=s1d.oc [0,1,2] 2
 refine .c 0 (gZ _ _ _ _ _ (acc) (c.nd.length) A1 (by omega) (by (try simp only [sp]);omega)) rfl λ r1 _ h1=> ?_
 obtain ⟨rfl,wv1,p1⟩:=h1
 have s2:=p1.join.od [0,1,2]
 refine .nil<| .seq<| .h<| .ld 1 s2 2 rfl<| .ln 0 (hr.n.ext s2.ext) rfl<| .Z rfl<| .block<| .lq [0,1,3,14,15] rfl (α:=Nat×Value×List Nat) (λ (k,sv,bs)=>[(16,(.int .i64 k))]) (λ (k,sv,bs) w'=>Sat w0 (s2.V [(0,aq g 66 [sv]),(1,cL sv 5 (aa .u8) (bs))]++cs) w'/\(k<=c.nd.length)/\(bs=acc++uv c.nd.length++(c.nd.take k).flatMap rH)/\(bs.length<=acc.length+10+80*k)) (λ (k,sv,bs)=>c.nd.length-k) (0,wv1,acc++uv (c.nd.length)) ⟨s2,KD _,by simp,by (try simp only [sp]);omega⟩ ?_
 rintro ⟨k,sv,bs⟩ w3 ⟨s3,hk,hbs,hbl⟩
 refine .Z rfl<| .seq<| .ae rfl (λ c1=> ?_) λ c1=> ?_
 ·refine .skip<| .seq<| .block<| .seq ?_
  obtain ⟨x,hx⟩:∃ x,(c.nd)[k]? =some x:=⟨_,py c1⟩
  have hxo:=ho.nd.el x (a7 hx)
  have hxp:=ho.nd.par k x hx
  have hbd:=hxo.2.bd ho.tx
  have hns:=bk hxo.1
  have ht1:=bK x.nm
  have hu1:=aD (x.p+1).toNat
  have hu2:=aD x.b.toNat
  have hu3:=aD (x.e-x.b).toNat
  refine .region<| .ix 0 (hr.n.ext s3.ext) rfl<| .lg 0 (hr.n.ext s3.ext) hx rfl<| .al 0 s3 rfl λ b2 _ s4 _ _=> ?_
  have s4d:=s4.mn
  refine .sa 0 s4d 3 rfl ((bE).one _) λ _ s5 _=> ?_
  have s5d:=s5.sn
  refine .nil<| .h<| .ld 2 s5d 3 rfl ?_
  have A2:=s5d.oc [0,1,2,3] 2
  refine .c 0 (ef _ _ _ _ _ (bs) x.nm A2 (by (try simp only [sp]);omega)) rfl λ r2 _ h2=> ?_
  obtain ⟨rfl,wv2,p2⟩:=h2
  have s6:=p2.join.od [0,1,2,3]
  refine .nil<| .h<| .ld 2 s6 3 rfl<| .e rfl (.add (b:=(1:Int)) rfl rfl (by unfold aY;omega)) ?_
  have A3:=s6.oc [0,1,2,3] 2
  refine .c 0 (gz _ _ _ _ _ (bs++cr x.nm) ((x.p+1)) A3 (by omega) (by (try simp only [sp]);omega)) rfl λ r3 _ h3=> ?_
  obtain ⟨rfl,wv3,p3⟩:=h3
  have s7:=p3.join.od [0,1,2,3]
  refine .nil<| .h<| .ld 2 s7 3 rfl ?_
  have A4:=s7.oc [0,1,2,3] 2
  refine .c 0 (gz _ _ _ _ _ (bs++cr x.nm++uv ((x.p+1)).toNat) (x.b) A4 (by omega) (by (try simp only [sp]);omega)) rfl λ r4 _ h4=> ?_
  obtain ⟨rfl,wv4,p4⟩:=h4
  have s8:=p4.join.od [0,1,2,3]
  refine .nil<| .region<| .ld 2 s8 3 rfl<| .ld 1 s8 3 rfl<| .e rfl (.sub rfl rfl (by unfold aY;omega)) ?_
  have A5:=s8.oc [0,1,2,3] 2
  refine .c 0 (gz _ _ _ _ _ (bs++cr x.nm++uv ((x.p+1)).toNat++uv (x.b).toNat) ((x.e-x.b)) A5 (by omega) (by (try simp only [sp]);omega)) rfl λ r5 _ h5=> ?_
  obtain ⟨rfl,wv5,p5⟩:=h5
  have s9:=p5.join.od [0,1,2,3]
  refine .nil<| .U rfl ?_
  have s10:=s9.pt [0,1,2]
  exact aT (k+1,wv5,bs++cr x.nm++uv ((x.p+1)).toNat++uv (x.b).toNat++uv ((x.e-x.b)).toNat) ⟨s10,by omega,by rw [ij hx,hbs];simp only [LW];rfl,by (try simp only [sp]);omega⟩
 refine .ao<| .h<| .ld 2 s3 2 rfl<| .ln 0 (hr.h.ext s3.ext) rfl ?_
 have A6:=s3.oc [0,1,2] 2
 refine .c 0 (gZ _ _ _ _ _ (bs) (c.hd.length) A6 (by omega) (by (try simp only [sp]);omega)) rfl λ r6 _ h6=> ?_
 obtain ⟨rfl,wv6,p6⟩:=h6
 have s11:=p6.join.od [0,1,2]
 refine .nil<| .h<| .ld 1 s11 2 rfl<| .ln 0 (hr.h.ext s11.ext) rfl<| .Z rfl<| .block<| .lq [0,1,3,14,15,47,48] rfl (α:=Nat×Value×List Nat) (λ (k,sv,bs)=>[(49,(.int .i64 k))]) (λ (k,sv,bs) w'=>Sat w0 (s11.V [(0,aq g 66 [sv]),(1,cL sv 5 (aa .u8) (bs))]++cs) w'/\(k<=c.hd.length)/\(bs=acc++uv c.nd.length++c.nd.flatMap rH++uv c.hd.length++((c.hd.zip c.rl).take k).flatMap sM)/\(bs.length<=acc.length+2000+60*k)) (λ (k,sv,bs)=>c.hd.length-k) (0,wv6,bs++uv (c.hd.length)) ⟨s11,KD _,by rw [hbs,PV (by omega)];simp,by (try simp only [sp]);omega⟩ ?_
 rintro ⟨k,sv,bs⟩ w11 ⟨s12,hk2,hbs,hbl⟩
 refine .Z rfl<| .seq<| .ae rfl (λ c2=> ?_) λ c2=> ?_
 ·refine .skip<| .seq<| .block<| .seq ?_
  obtain ⟨x,hx⟩:∃ x,(c.hd)[k]? =some x:=⟨_,py c2⟩
  obtain ⟨s,hs9⟩:∃ s,c.rl[k]? =some s:=⟨_,py (by omega)⟩
  have hxo:=ho.OI hn hx hs9
  have ht1:=bK s
  have hu1:=aD (x+1).toNat
  refine .region<| .ix 1 (hr.h.ext s12.ext) rfl<| .le 0 (hr.h.ext s12.ext) hx rfl<| .Z rfl<| .h<| .a 2 rfl (.add (b:=(1:Int)) rfl rfl (by unfold aY;omega)) ?_
  have A7:=s12.oc [0,1,2] 2
  refine .c 0 (gz _ _ _ _ _ (bs) ((x+1)) A7 (by omega) (by (try simp only [sp]);omega)) rfl λ r7 _ h7=> ?_
  obtain ⟨rfl,wv7,p7⟩:=h7
  have s13:=p7.join.od [0,1,2]
  refine .nil<| .region<| .ld 2 s13 2 rfl<| .ix 1 (hr.l.ext s13.ext) rfl<| .le 0 (hr.l.ext s13.ext) hs9 rfl ?_
  have A8:=s13.oc [0,1,2] 2
  refine .c 0 (ef _ _ _ _ _ (bs++uv ((x+1)).toNat) s A8 (by (try simp only [sp]);omega)) rfl λ r8 _ h8=> ?_
  obtain ⟨rfl,wv8,p8⟩:=h8
  have s14:=p8.join.od [0,1,2]
  refine .nil<| .U rfl ?_
  exact aT (k+1,wv8,bs++uv ((x+1)).toNat++cr s) ⟨s14,by omega,by rw [ij (BD hx hs9),hbs];simp only [LW];rfl,by (try simp only [sp]);omega⟩
 refine .ao ?_
 show aL _ _ _ _ _ _
 refine cv rfl ?_
 have s15:=s12.pt [0,1]
 have he:bs=acc++E1 c.nd c.hd c.rl:=by
  rw [hbs,PV (by rw [length_zip];omega)];unfold E1;simp only [LW]
 rw [he] at s15
 exact ⟨rfl,_,s15⟩
set_option maxHeartbeats 2000000 in
theorem IA (w0 w:World) (cs:List Chunk) (g:Nat) (v:Value) (acc:List Nat) (c:Co) (n:Nat) (hr:RdC w0 c) (ho:OkC n c) (hn:n<=3) (a:Nat) (at_:ByteArray×Bool) (hs:Sat w0 ([aq g 66 [v],cL v 5 (aa .u8) (acc)]++cs) w) (hat:c.at_[a]? =some at_) (ha:acc.length<=1000000000):
  CallsV prog 29 [(.pointer (some ⟨g,0,none⟩)),(.agg #[c.va,c.vt,c.vx,c.vr,c.vn,c.vh,c.vl]),(.int .i64 a)] w λ r w'=>r= .int .i64 ((0:Nat):Int)/\∃ v',Sat w0 ([aq g 66 [v'],cL v' 5 (aa .u8) (acc++jJ lexB bW at_ (eK c a))]++cs) w':=by
 have htk:=ho.ntk
 have hal:=bQ hat
 have hok:=pZ ho hn hal
 obtain ⟨us,hu0⟩:∃ us,us=eK c a:=⟨_,rfl⟩
 rw [<-hu0] at hok
 obtain ⟨hbe,hus⟩:=hok
 have hul:us.length=c.tk.length:=by rw [hu0,k9]
 have hwl:=bI us
 obtain ⟨l,hl0⟩:∃ l,l=ek us:=⟨_,rfl⟩
 have hl:OkN l:=by rw [hl0];exact ve hus.1
 have hll:l.length=us.length:=by rw [hl0];unfold ek;rw [No]
 have hxl:=mO hus
 have htl:(bW l).length<=2000004:=by rw [hl0];exact mP hus.1
 have hnsz:=bk (ho.at_.1 a at_ hat).1
 have hnt:=bK at_.1
 have hu8:=ho.at_.2
 refine ai func29 rfl rfl ?_
 refine .h<| .bx 0 hs rfl λ b1 _ s1 _ _=> ?_
 have s1d:=s1.mn
 refine .Z rfl<| .h<| .ld 2 s1d 2 rfl<| .ix 1 (hr.a.ext s1d.ext) rfl<| .fl 0 (hr.a.ext s1d.ext) rfl<| .lf 0 (hr.a.ext s1d.ext) hat rfl ?_
 have A1:=s1d.oc [0,1,2] 2
 refine .c 0 (ef _ _ _ _ _ (acc) at_.1 A1 (by omega)) rfl λ r1 _ h_1=> ?_
 obtain ⟨rfl,wv1,p1⟩:=h_1
 have s2:=p1.join.od [0,1,2]
 refine .nil<| .Z rfl<| .jn [0,1,2,4,6] rfl (λ K L' w'=>∃ (sn:Nat),Weak ([(7,(.int .i64 sn))]++K) L'/\Sat w0 s2.L w'/\(sn=if at_.2 then 1 else 0)) ?_ ?_
 ·refine .h<| .ld 1 s2 2 rfl<| .ix 1 (hr.a.ext s2.ext) rfl<| .fl 0 (hr.a.ext s2.ext) rfl<| .lf 0 (hr.a.ext s2.ext) hat rfl<| .nil<| .cond rfl (λ c1=> ?_) (λ c1=> ?_)
  ·refine .U rfl ?_
   exact ⟨1,(wk rfl),s2,by simp [c1]⟩
  refine .skip ?_
  exact ⟨0,(wk rfl),s2,by simp [c1]⟩
 rintro L' w3 ⟨sn,hw1,s3,hsn⟩
 refine .weaken _ hw1<| .seq ?_
 have hs9:sn<=1:=by rw [hsn];split<;>omega
 have hu9:=aD sn
 refine .region<| .z 2 rfl ?_
 have A2:=s3.oc [0,1,2] 2
 refine .c 0 (gZ _ _ _ _ _ (acc++cr at_.1) (sn) A2 (by omega) (by (try simp only [sp]);omega)) rfl λ r2 _ h_2=> ?_
 obtain ⟨rfl,wv2,p2⟩:=h_2
 have s4:=p2.join.od [0,1,2]
 refine .nil<| .Z rfl<| .seq<| .h<| .ld 1 s4 2 rfl<| .ln 0 (hr.t.ext s4.ext) rfl<| .Z rfl<| .block ?_
 have s5:=(s4.aA 9 (ax)).mn
 refine .lq [0,1,2,4,6,7,40,41] rfl (α:=Nat×Value×List ByteArray) (λ (k,vv,vals)=>[(8,vv),(42,(.int .i64 k))]) (λ (k,vv,vals) w'=>Sat w0 (s5.V [(3,cL vv 9 (ax) (vals))]++cs) w'/\(k<=c.tk.length)/\(vals=(c.tk.take k).map (λ t=>t.ns.getD a ByteArray.empty))/\(vals.length<=k)) (λ (k,vv,vals)=>c.tk.length-k) (0,(.slice none 0 0),[]) ⟨s5,KD _,rfl,KD _⟩ ?_
 rintro ⟨k,vv,vals⟩ w5 ⟨s6,hk,hvals,hvl⟩
 refine .Z rfl<| .seq<| .ae rfl (λ c2=> ?_) λ c2=> ?_
 ·refine .skip<| .seq<| .block<| .seq ?_
  obtain ⟨x,hx⟩:∃ x,(c.tk)[k]? =some x:=⟨_,py c2⟩
  have htl9:=(ho.tk x (a7 hx)).1
  obtain ⟨y,hy⟩:∃ y,x.ns[a]? =some y:=⟨_,py (by omega)⟩
  refine .region<| .ix 0 (hr.t.ext s6.ext) rfl<| .le 0 (hr.t.ext s6.ext) hx rfl<| .Z rfl<| .region<| .ix 3 ((hr.tr _ (a7 hx)).ext s6.ext) rfl<| .le 0 ((hr.tr _ (a7 hx)).ext s6.ext) hy rfl<| .f rfl (.bU (ax) y bu rfl s6 rfl λ v1 _ s7 _=> ?_)
  have s7d:=s7.mn
  refine .ap 0 s7d 3 (s7d.ah 4 rfl) rfl (h1:=by simp only [KM];omega) (h2:=by simp only [KM];omega) λ v2 _ s8 _=> ?_
  have s8d:=(s8.sn).pt [0,1,2,3]
  refine .Z rfl<| .U rfl ?_
  exact aT (k+1,v2,vals++[y]) ⟨s8d,by omega,by rw [iO hx hy,hvals],by rw [sp];simp only [KM];omega⟩
 refine .ao<| .seq ?_
 have s9:=(s6.aZ 3 rfl (show vals=us from by rw [hvals,PV (by omega),hu0]<;>rfl)).sn
 refine .region<| .c 1 (wZ (s9.ah 3 rfl) hbe) rfl λ r3 _ h_3=> ?_
 obtain ⟨lg1,lvw1,lvc1,lvo1,lvn1,rfl,p3⟩:=h_3
 have s10:=(s9.az p3).mn
 refine .Z rfl ?_
 have s11:=(s10.aZ 8 rfl (show us.map (bJ (a8 us))=l from hl0.symm)).sn
 refine .seq<| .Z rfl<| .aj rfl (rfl)<| .skip<| .h<| .c 2 (tt _ _ _ _ _ _ _ _ (s11.uD 4 5 6 7 rfl rfl rfl rfl) (eU _) (λ x hx=>hus.2 x (cB.1 hx)) (λ c hc=>⟨(Qh hc).elim λ i hi=>lI hi,by have:=B7 us c hc;omega⟩) (by omega)) rfl λ r4 _ h4=> ?_
 have s12:=(s11.az h4).mn
 refine .e rfl (.cZ underlying45 underlying9 underlying5 rfl (s12.ah 9 rfl)) ?_
 have A3:=s12.oc [0,1,2,3,4,5,6,7,8,9] 2
 refine .c 0 (ef _ _ _ _ _ (acc++cr at_.1++uv (sn)) (strOf (aM (cS (a8 us) (ar us) (a8 us).length))) A3 (by have hq2:(aM (cS (a8 us) (ar us) (a8 us).length)).length<=160000:=hxl;rw [bX];(try simp only [sp]);omega)) rfl λ r5 _ h5=> ?_
 obtain ⟨rfl,wv3,p5⟩:=h5
 have s13:=p5.join.od [0,1,2,3,4,5,6,7,8,9]
 refine .nil<| .h<| .c 1 (xn _ (l) _ (s13.ah 8 rfl) (hl)) rfl λ r6 _ h6=> ?_
 obtain ⟨g1,lv1,bv1,ps1,rfl,hps1,p6⟩:=h6
 have s14:=(s13.az p6).mn
 refine .Z rfl<| .seq<| .Z rfl<| .aj rfl (rfl)<| .skip<| .seq ?_
 have hq1:=bK (strOf (aM (cS (a8 us) (ar us) (a8 us).length)))
 rw [bX] at hq1
 have hq2:(aM (cS (a8 us) (ar us) (a8 us).length)).length<=160000:=hxl
 have hq3:(aM (jM l (br l))).length<=2000004:=htl
 refine .region<| .c 2 (qB g1 ((l).length) (br l) lv1 bv1 (e9 l) ps1 _ (s14.cell (i:=10) (j:=0) rfl rfl) (s14.cell (i:=10) (j:=1) rfl rfl) (s14.cell (i:=10) (j:=2) rfl rfl) (s14.cell (i:=10) (j:=3) rfl rfl) (s14.ah 11 rfl) (s14.ah 12 rfl) (s14.o4 13 rfl) (hl.len) (et _) (ug hl) ((vU hps1 hl).1) ((vU hps1 hl).2) (by rw [hps1];exact BG _)) rfl λ r7 _ h7=> ?_
 have s15:=(s14.az h7).mn
 refine .e rfl (.cZ underlying45 underlying9 underlying5 rfl (s15.ah 15 rfl)) ?_
 have A4:=s15.oc [0,1,2,3,4,5,6,7,8,9,10,11,12,13,14,15] 2
 refine .c 0 (ef _ _ _ _ _ (acc++cr at_.1++uv (sn)++cr (strOf (aM (cS (a8 us) (ar us) (a8 us).length)))) (strOf (aM (jL ((l).length) (br l) (e9 l) (bB ps1)))) A4 (by rw [hps1,vV,bX];(try simp only [sp]);omega)) rfl λ r8 _ h8=> ?_
 obtain ⟨rfl,wv4,p8⟩:=h8
 have s16:=p8.join.od [0,1,2,3,4,5,6,7,8,9,10,11,12,13,14,15]
 refine .nil<| .h<| .cm 1 s16 (AR _ _ _ _ _ _ _ _ (s16.uD 4 5 6 7 rfl rfl rfl rfl)) rfl λ _ s17=> .f rfl (.cP (ck Nat) ((⟨none,0,0⟩,[])) C8 rfl s17 rfl rfl (by omega) (by omega) (by omega) λ v3 _ s18 _=> ?_)
 have s18d:=s18.mn
 refine .Z rfl<| .seq<| .seq<| .trim [0,1,2,4,6,7,8,11,12,13,14,15,40,41,42] rfl<| .region<| .ln 1 (s18d.ah 8 rfl) rfl<| .Z rfl<| .block ?_
 have s19:=(s18d.aZ 1 rfl (show acc++cr at_.1++uv (sn)++cr (strOf (aM (cS (a8 us) (ar us) (a8 us).length)))++cr (strOf (aM (jL ((l).length) (br l) (e9 l) (bB ps1))))=acc++(cr at_.1++(uv sn++(ke (lexB us)++ke (bW l)))) from by rw [gr (dN rfl (fS _ _ _)),hps1,vV,gr (dN rfl (jO (et l)))];simp only [LW];rfl)).sn
 have s20:=s19.pt [0,1,2,8,16]
 have s21:=s20.yZ 3 (aa .i64) (a8 us).length rfl
 refine .lq [0,1,2,4,6,7,12,13,40,41,84,85] rfl (α:=Nat×Value×List (SV×List Nat)) (λ (k,pv,S)=>[(15,pv),(86,(.int .i64 k))]) (λ (k,pv,S) w'=>Sat w0 (s21.V [(4,cL pv 22 (ck Nat) (S)),(5,bh 3 (aa .i64) (S))]++cs) w'/\(k<=l.length)/\(S.length=(a8 us).length)/\(S.map Prod.snd=(List.range (a8 us).length).map (eo (l.take k)))) (λ (k,pv,S)=>l.length-k) (0,v3,List.replicate (a8 us).length (⟨none,0,0⟩,[])) ⟨s21,KD _,by simp,by apply SP<;>simp [eo]⟩ ?_
 rintro ⟨k,pv,S⟩ w16 ⟨s22,hk,hSl,hS⟩
 refine .Z rfl<| .seq<| .ae rfl (λ c3=> ?_) λ c3=> ?_
 ·refine .skip<| .seq<| .block<| .seq ?_
  obtain ⟨x,hx⟩:∃ x,(l)[k]? =some x:=⟨_,py c3⟩
  have hxm:x<(a8 us).length:=vM x (by rw [<-hl0];exact a7 hx)
  refine .region<| .ix 1 (s22.ah 3 rfl) rfl<| .le 0 (s22.ah 3 rfl) hx rfl<| .Z rfl ?_
  obtain ⟨p,hp⟩:∃ p,S[x]? =some p:=⟨_,py (by omega)⟩
  have hpl:p.2.length<=4096:=by rw [(qc hS hp).1];exact (kY x (by rw [KV];omega)).len
  have s23:=s22.Cc 5 rfl rfl hp rfl
  refine .region<| .ix 4 (s23.ah 4 rfl) rfl<| .le 0 (s23.ah 4 rfl) hp rfl<| .b 1 rfl (.bU (aa .i64) k aQ rfl s23 rfl λ v_4 _ s24 _=> ?_)
  have s24d:=s24.mn
  refine .ap 0 s24d 6 (s24d.ah 7 rfl) rfl (h1:=by simp only [KM];omega) (h2:=by simp only [KM];omega) λ v5 _ s25 _=> ?_
  have s25d:=(s25.sn).pt [0,1,2,3,4,5,6]
  obtain ⟨sv1,hsv1,hsv1n⟩:=(s25d.ah 6 rfl).sv
  subst hsv1
  refine .ix 0 (s25d.ah 4 rfl) rfl<| .f rfl (.cH (a:=(sv1,p.2++[k])) 4 fR s25d rfl rfl rfl rfl (by omega) λ _ s26 _=> ?_)
  have s26d:=s26.sn
  refine .nil ?_
  have s27:=s26d.Hq 6 5 rfl rfl rfl rfl (by omega) rfl
  refine .U rfl ?_
  exact aT (k+1,pv,S.set x (sv1,p.2++[k])) ⟨s27,by omega,by rw [PJ];exact hSl,y6 hx hS hp⟩
 refine .ao<| .seq<| .h<| .ln 1 (s22.ah 4 rfl) rfl<| .Z rfl<| .block ?_
 rw [show k=l.length by omega,PW] at hS
 refine .lq [0,1,2,4,7,12,13,15,40,41,84,85,102,103] rfl (α:=Nat×Value×List Nat) (λ (k,sv,bs)=>[(104,(.int .i64 k))]) (λ (k,sv,bs) w'=>Sat w0 (s22.V [(0,aq g 66 [sv]),(1,cL sv 5 (aa .u8) (bs))]++cs) w'/\(k<=(a8 us).length)/\(bs=acc++(cr at_.1++(uv sn++(ke (lexB us)++ke (bW l))))++sV l k)/\(bs.length<=acc.length+2200000+40020*k)) (λ (k,sv,bs)=>S.length-k) (0,wv4,acc++(cr at_.1++(uv sn++(ke (lexB us)++ke (bW l))))) ⟨s22,KD _,by simp [sV],by have h1:=aD sn;have h2:=aD (lexB us).length;have h3:=aD (bW l).length;unfold ke;simp only [sp];omega⟩ ?_
 rintro ⟨k,sv,bs⟩ w20 ⟨s28,hk,hbs,hbl⟩
 refine .Z rfl<| .seq<| .ae rfl (λ c4=> ?_) λ c4=> ?_
 ·refine .skip<| .seq<| .block<| .seq ?_
  obtain ⟨q,hq⟩:∃ q,(S)[k]? =some q:=⟨_,py c4⟩
  obtain ⟨hq2,hqm⟩:=qc hS hq
  have hqo:OkP q.2:=by rw [hq2];exact kY k (by omega)
  have hpl:=je hqo
  have htn:=bK (strOf (aM (mH q.2)))
  rw [bX,bL] at htn
  refine .region<| .ix 0 (s28.ah 4 rfl) rfl<| .le 0 (s28.ah 4 rfl) hq rfl<| .Z rfl<| .h<| .c 1 (tG _ (q.2) _ (s28.bt 5 rfl hq) (hqo)) rfl λ r10 _ h10=> ?_
  obtain ⟨pg1,pbv1,psv1,rfl,p10⟩:=h10
  have s29:=(s28.az p10).mn
  refine .Z rfl<| .seq<| .Z rfl<| .aj rfl (rfl)<| .skip<| .region<| .c 2 (qG _ _ _ (q.2) _ (s29.cell (i:=6) (j:=0) rfl rfl) (s29.cell (i:=6) (j:=1) rfl rfl) (s29.cell (i:=6) (j:=2) rfl rfl) (s29.cell (i:=6) (j:=3) rfl rfl) (s29.ah 7 rfl) (s29.ah 8 rfl) (hqo)) rfl λ r11 _ h11=> ?_
  have s30:=(s29.az h11).mn
  refine .e rfl (.cZ underlying45 underlying9 underlying5 rfl (s30.ah 9 rfl)) ?_
  have A5:=s30.oc [0,1,2,3,4,5,6,7,8,9] 2
  refine .c 0 (ef _ _ _ _ _ (bs) (strOf (aM (mH (q.2)))) A5 (by rw [bX,bL];omega)) rfl λ r12 _ h12=> ?_
  obtain ⟨rfl,wv5,p12⟩:=h12
  have s31:=p12.join.od [0,1,2,3,4,5,6,7,8,9]
  refine .nil<| .U rfl ?_
  have s32:=s31.pt [0,1,2,3,4,5]
  exact aT (k+1,wv5,bs++cr (strOf (aM (mH (q.2))))) ⟨s32,by omega,by rw [gr (dN rfl (iA _)),hq2,hbs];unfold sV;rw [vF,LW],by rw [sp];omega⟩
 refine .ao<| .Z rfl<| .aC rfl rfl ?_
 have s33:=s28.pt [0,1]
 have he:bs=acc++jJ lexB bW at_ (eK c a):=by
  rw [hbs,show k=(a8 us).length by omega,hsn,hl0,<-hu0];unfold jJ;simp only [LW]
 rw [he] at s33
 exact ⟨rfl,_,s33⟩
theorem ED (w0 w:World) (cs:List Chunk) (g:Nat) (v:Value) (acc:List Nat) (n:Nat) (hs:Sat w0 ([aq g 66 [v],Fx v (aa .u8) (acc)]++cs) w) (hn:n<2^62) (ha:acc.length<=100000000000):
  CallsV prog 28 [(.pointer (some ⟨g,0,none⟩)),(.int .i64 n)] w λ r w'=>r= .tuple #[]/\∃ v',Sat w0 ([aq g 66 [v'],cL v' 5 (aa .u8) (acc++uv n)]++cs) w':=by
 refine ai func28 rfl rfl ?_
 refine .region<| .ld 4 hs 0 rfl<| .c 2 (dj v (acc) (n) _ (hs.o3 1 rfl) (by omega) (by omega)) rfl λ r1 _ h_1=> ?_
 have s1:=(hs.az h_1).mn
 refine .st 2 s1 0 rfl (h1:=(s1.ah 2 rfl).ab) λ _ s2 _=> ?_
 have s2d:=s2.sn
 refine .nil ?_
 show aL _ _ _ _ _ _
 refine cv rfl ?_
 have s3:=s2d.pt [0,2]
 exact ⟨rfl,_,s3⟩
theorem pU (us:List ByteArray):B8 (lexB us):=nw (fS _ _ _)
theorem pV (l:List Nat):B8 (bW l):=nw (jO (et l))
theorem vg {n:Nat} {c:Co} (h:OkC n c) (hn:n<=3) {a:Nat} {at_:ByteArray×Bool} (hat:c.at_[a]? =some at_):(jJ lexB bW at_ (eK c a)).length<=5000000:=by
 obtain ⟨_,hus⟩:=pZ h hn (bQ hat)
 have h0:=h.ntk
 have h1:=mO hus;have h2:=mP hus.1;have h3:=bK at_.1;have h4:=bk (h.at_.1 a at_ hat).1
 have h5:=bI (eK c a);have h6:=k9 c a
 have h7:(ek (eK c a)).length<=4096:=by unfold ek;rw [No];omega
 have h8:=Jb h7 (a8 (eK c a)).length
 have h9:=aD (if at_.2 then 1 else 0);have h10:=aD (lexB (eK c a)).length;have h11:=aD (bW (ek (eK c a))).length
 unfold jJ ke
 simp only [sp]
 omega
theorem oe (c:Co) (n:Nat) (w:World) (hr:RdC w c) (ho:OkC n c) (hn:n<=3):
  CallsV prog 11 [(.agg #[c.va,c.vt,c.vx,c.vr,c.vn,c.vh,c.vl])] w λ r w'=>r= .tuple #[.string (strOf (aM (iR lexB bW c.v))),.int .i64 ((0:Nat):Int)]/\Sat w [] w':=by
 have htk:=ho.ntk
 have htx:=ho.ntx
 have hrg:=ho.nrg
 have hnd:=ho.nnd
 have hat:=ho.at_.2
 have hu1:=aD c.at_.length
 have hu2:=aD c.tx.length
 have hu3:=aD c.rg.length
 have hs0:=Sat.start w
 refine ai func11 rfl rfl ?_
 refine .h<| .bx 0 hs0 rfl λ b1 _ s1 _ _=> .Z rfl<| .seq<| .h<| .lo 0 s1 0 rfl<| .cp 0 s1 (wX c _ _ (hr.ext s1.ext) ho hn) rfl λ _ s2=> .Z rfl<| .Z rfl<| .aj rfl (rfl)<| .skip<| .h<| .f rfl (.gW (aa .u8) [67,83,49] ch rfl ⟨rfl,rfl,rfl,trivial⟩ rfl rfl rfl rfl (by decide) (by decide) s2 λ v1 _ s3 _=> ?_)
 have s3:=s3.nn
 refine .f rfl (.Cg 1 underlying45 underlying5 s3 rfl rfl (by decide) λ _ s4=> ?_)
 refine .e rfl (.build P4 rfl ⟨(s4.o3 1 rfl).ab,trivial⟩ rfl)<| .bx 0 s4 rfl λ b2 _ s5 _ _=> .Z rfl<| .seq ?_
 have s6:=(Sat.order [2,1,0] (by decide) s5.tail).aI.pk [0,1,2]
 have hlx:=ho.P8 (Q7 hn (by decide))
 refine .region<| .ld 2 s6 2 rfl<| .ln 0 (hr.a.ext s6.ext) rfl ?_
 have A1:=s6.tail.oc [0,1,2] 2
 refine .c 0 (ED _ _ _ _ _ ([67,83,49]) (c.at_.length) A1 (by omega) (by decide)) rfl λ r2 _ h2=> ?_
 obtain ⟨rfl,wv1,p2⟩:=h2
 have s7:=(Sat.order [0,1,2] (by decide) p2.join).aI.nn
 refine .nil<| .seq<| .h<| .ld 1 s7 2 rfl<| .ln 0 (hr.a.ext s7.ext) rfl<| .Z rfl<| .block<| .lq [0,1,6,7,34] rfl (α:=Nat×Value×List Nat) (λ (k,sv,bs)=>[(35,(.int .i64 k))]) (λ (k,sv,bs) w'=>Sat w (s7.U [(0,aq b2 66 [sv]),(1,cL sv 5 (aa .u8) (bs))]) w'/\(k<=c.at_.length)/\(bs=[67,83,49]++uv c.at_.length++eM lexB bW c.v.at_ c.v.tk k)/\(bs.length<=13+5000000*k)) (λ (k,sv,bs)=>c.at_.length-k) (0,wv1,[67,83,49]++uv (c.at_.length)) ⟨s7,KD _,by simp [eM],by rw [sp];simp only [KP,KY];omega⟩ ?_
 rintro ⟨k,sv,bs⟩ w7 ⟨s8,hk,hbs,hbl⟩
 refine .Z rfl<| .seq<| .ae rfl (λ c1=> ?_) λ c1=> ?_
 ·refine .skip<| .seq<| .block<| .seq ?_
  obtain ⟨x,hx⟩:∃ x,(c.at_)[k]? =some x:=⟨_,py c1⟩
  have hcl:=vg ho hn hx
  refine .U rfl<| .h<| .lo 1 s8 2 rfl<| .z 1 rfl ?_
  have A2:=s8.tail.oc [0,1,2] 2
  refine .c 0 (IA _ _ _ _ _ (bs) c _ hr ho hn (k) x A2 hx (by omega)) rfl λ r3 _ h3=> ?_
  obtain ⟨rfl,wv2,p3⟩:=h3
  have s9:=(Sat.order [0,1,2] (by decide) p3.join).aI.nn
  refine .Z rfl<| .Z rfl<| .aj rfl (rfl)<| .skip<| .U rfl ?_
  exact aT (k+1,wv2,bs++jJ lexB bW x (eK c k)) ⟨s9,by omega,by rw [tW hx,hbs];simp only [LW],by rw [sp];omega⟩
 refine .ao<| .h<| .ld 2 s8 2 rfl<| .ln 0 (hr.x.ext s8.ext) rfl ?_
 have A3:=s8.tail.oc [0,1,2] 2
 refine .c 0 (gZ _ _ _ _ _ (bs) (c.tx.length) A3 (by omega) (by (try simp only [sp]);omega)) rfl λ r4 _ h4=> ?_
 obtain ⟨rfl,wv3,p4⟩:=h4
 have s10:=(Sat.order [0,1,2] (by decide) p4.join).aI.nn
 refine .nil<| .seq<| .h<| .ld 1 s10 2 rfl<| .ln 0 (hr.x.ext s10.ext) rfl<| .Z rfl<| .block<| .lq [0,1,6,7,34,52,53] rfl (α:=Nat×Value×List Nat) (λ (k,sv,bs)=>[(54,(.int .i64 k))]) (λ (k,sv,bs) w'=>Sat w (s10.U [(0,aq b2 66 [sv]),(1,cL sv 5 (aa .u8) (bs))]) w'/\(k<=c.tx.length)/\(bs=[67,83,49]++uv c.at_.length++eM lexB bW c.v.at_ c.v.tk c.at_.length++uv c.tx.length++(c.tx.take k).flatMap (λ x=>gS x.v))/\(bs.length<=40000100+2000*k)) (λ (k,sv,bs)=>c.tx.length-k) (0,wv3,bs++uv (c.tx.length)) ⟨s10,KD _,by rw [hbs,show k=c.at_.length by omega];simp,by rw [sp];omega⟩ ?_
 rintro ⟨k,sv,bs⟩ w10 ⟨s11,hk,hbs,hbl⟩
 refine .Z rfl<| .seq<| .ae rfl (λ c2=> ?_) λ c2=> ?_
 ·refine .skip<| .seq<| .block<| .seq ?_
  obtain ⟨x,hx⟩:∃ x,(c.tx)[k]? =some x:=⟨_,py c2⟩
  have hxo:=ho.tx.nm x (a7 hx)
  have hns:=bk hxo.1
  have ht1:(gS x.v).length<=2000:=vH hns hxo.2.1
  have ht2:=bK x.nm
  have ht3:=aD (x.e-x.b).toNat
  have ht4:=kW hxo.2.1
  refine .region<| .ix 0 (hr.x.ext s11.ext) rfl<| .lg 0 (hr.x.ext s11.ext) hx rfl<| .al 0 s11 rfl λ b3 _ s12 _ _=> .sa 0 s12 3 rfl ((aG).one _) λ _ s13 _=> .nil<| .h<| .ld 2 s13 3 rfl ?_
  have A4:=s13.tail.oc [0,1,2,3] 2
  refine .c 0 (ef _ _ _ _ _ (bs) x.nm A4 (by (try simp only [sp]);omega)) rfl λ r5 _ h5=> ?_
  obtain ⟨rfl,wv4,p5⟩:=h5
  have s14:=(Sat.order [0,1,2,3] (by decide) p5.join).aI.nn
  refine .nil<| .h<| .ld 2 s14 3 rfl<| .ld 1 s14 3 rfl<| .e rfl (.sub rfl rfl (by unfold aY;omega)) ?_
  have A5:=s14.tail.oc [0,1,2,3] 2
  refine .c 0 (gz _ _ _ _ _ (bs++cr x.nm) ((x.e-x.b)) A5 (by omega) (by (try simp only [sp]);omega)) rfl λ r6 _ h6=> ?_
  obtain ⟨rfl,wv5,p6⟩:=h6
  have s15:=(Sat.order [0,1,2,3] (by decide) p6.join).aI.nn
  refine .nil<| .region<| .ld 2 s15 3 rfl ?_
  have A6:=s15.tail.oc [0,1,2,3] 2
  refine .c 0 (tH _ _ _ _ _ (bs++cr x.nm++uv ((x.e-x.b)).toNat) _ (x.ps) A6 (hr.xr _ (a7 hx)) (hxo.2.1) (by (try simp only [sp]);omega)) rfl λ r7 _ h7=> ?_
  obtain ⟨rfl,wv6,p7⟩:=h7
  have s16:=(Sat.order [0,1,2,3] (by decide) p7.join).aI.nn
  refine .nil<| .U rfl ?_
  exact aT (k+1,wv6,bs++cr x.nm++uv ((x.e-x.b)).toNat++pw x.ps) ⟨s16.pk [0,1,2],by omega,by rw [ij hx,hbs];simp only [LW];rfl,by have e:(gS x.v).length=(cr x.nm++(uv (x.e-x.b).toNat++pw x.ps)).length:=rfl;simp only [sp] at e⊢;omega⟩
 refine .ao<| .h<| .ld 2 s11 2 rfl<| .ln 0 (hr.r.ext s11.ext) rfl ?_
 have A7:=s11.tail.oc [0,1,2] 2
 refine .c 0 (gZ _ _ _ _ _ (bs) (c.rg.length) A7 (by omega) (by (try simp only [sp]);omega)) rfl λ r8 _ h8=> ?_
 obtain ⟨rfl,wv7,p8⟩:=h8
 have s18:=(Sat.order [0,1,2] (by decide) p8.join).aI.nn
 refine .nil<| .Z rfl<| .seq<| .h<| .ld 1 s18 2 rfl<| .ln 0 (hr.r.ext s18.ext) rfl<| .Z rfl<| .block<| .lq [0,1,6,7,34,52,53,80,81] rfl (α:=Nat×Value×List Nat×Int) (λ (k,sv,bs,bf)=>[(12,(.int .i64 (bf))),(82,(.int .i64 k))]) (λ (k,sv,bs,bf) w'=>Sat w (s18.U [(0,aq b2 66 [sv]),(1,cL sv 5 (aa .u8) (bs))]) w'/\(k<=c.rg.length)/\(bs=[67,83,49]++uv c.at_.length++eM lexB bW c.v.at_ c.v.tk c.at_.length++uv c.tx.length++c.tx.flatMap (λ x=>gS x.v)++uv c.rg.length++fw 0 ((c.rg.take k).map Iv.v))/\(bs.length<=40200200+2000*k)/\(bf=(Kx 0 ((c.rg.take k).map Iv.v)))/\(0<=bf)) (λ (k,sv,bs,bf)=>c.rg.length-k) (0,wv7,bs++uv (c.rg.length),0) ⟨s18,KD _,by rw [hbs,PV (by omega)];simp [fw],by rw [sp];omega,rfl,Tn _⟩ ?_
 rintro ⟨k,sv,bs,bf⟩ w17 ⟨s19,hk,hbs,hbl,hbf,hb0⟩
 refine .Z rfl<| .seq<| .ae rfl (λ c3=> ?_) λ c3=> ?_
 ·refine .skip<| .seq<| .block<| .seq ?_
  obtain ⟨x,hx⟩:∃ x,(c.rg)[k]? =some x:=⟨_,py c3⟩
  have hxo:=ho.rg.el x (a7 hx)
  have hns:=bk hxo.1
  have hbd:=hxo.2.1.bd ho.tx
  have ht1:=λ bf=>vG (bf:=bf) (x:=x.v) hns hxo.2.2
  have ht2:=bK x.nm
  have ht3:=aD (x.e-x.b).toNat
  have ht4:=kW hxo.2.2
  have ht5:=aD (x.b-bf).toNat
  have hlb:bf<=x.b:=by rw [hbf,Sr];exact FR hlx.rc (by rw [show c.v.rg=c.rg.map Iv.v from rfl,PX,hx]<;>rfl)
  refine .region<| .ix 0 (hr.r.ext s19.ext) rfl<| .lg 0 (hr.r.ext s19.ext) hx rfl<| .al 0 s19 rfl λ b4 _ s20 _ _=> .sa 0 s20 3 rfl ((aG).one _) λ _ s21 _=> .nil<| .h<| .ld 2 s21 3 rfl ?_
  have A8:=s21.tail.oc [0,1,2,3] 2
  refine .c 0 (ef _ _ _ _ _ (bs) x.nm A8 (by (try simp only [sp]);omega)) rfl λ r9 _ h9=> ?_
  obtain ⟨rfl,wv8,p9⟩:=h9
  have s22:=(Sat.order [0,1,2,3] (by decide) p9.join).aI.nn
  refine .nil<| .h<| .ld 2 s22 3 rfl<| .a 1 rfl (.sub rfl rfl (by unfold aY;omega)) ?_
  have A9:=s22.tail.oc [0,1,2,3] 2
  refine .c 0 (gz _ _ _ _ _ (bs++cr x.nm) ((x.b-bf)) A9 (by omega) (by (try simp only [sp]);omega)) rfl λ r10 _ h10=> ?_
  obtain ⟨rfl,wv9,p10⟩:=h10
  have s23:=(Sat.order [0,1,2,3] (by decide) p10.join).aI.nn
  refine .nil<| .h<| .ld 2 s23 3 rfl<| .ld 1 s23 3 rfl<| .e rfl (.sub rfl rfl (by unfold aY;omega)) ?_
  have A10:=s23.tail.oc [0,1,2,3] 2
  refine .c 0 (gz _ _ _ _ _ (bs++cr x.nm++uv ((x.b-bf)).toNat) ((x.e-x.b)) A10 (by omega) (by (try simp only [sp]);omega)) rfl λ r11 _ h11=> ?_
  obtain ⟨rfl,wv10,p11⟩:=h11
  have s24:=(Sat.order [0,1,2,3] (by decide) p11.join).aI.nn
  refine .nil<| .h<| .ld 2 s24 3 rfl ?_
  have A11:=s24.tail.oc [0,1,2,3] 2
  refine .c 0 (tH _ _ _ _ _ (bs++cr x.nm++uv ((x.b-bf)).toNat++uv ((x.e-x.b)).toNat) _ (x.ps) A11 (hr.rr _ (a7 hx)) (hxo.2.2) (by (try simp only [sp]);omega)) rfl λ r12 _ h12=> ?_
  obtain ⟨rfl,wv11,p12⟩:=h12
  have s25:=(Sat.order [0,1,2,3] (by decide) p12.join).aI.nn
  refine .nil<| .region<| .ld 1 s25 3 rfl<| .Z rfl<| .U rfl ?_
  exact aT (k+1,wv11,bs++cr x.nm++uv ((x.b-bf)).toNat++uv ((x.e-x.b)).toNat++pw x.ps,x.b) ⟨s25.pk [0,1,2],by omega,by rw [(qd hx).1,hbs,<-hbf];simp only [LW];rfl,by have e:(Kv bf x.v).length=(cr x.nm++(uv (x.b-bf).toNat++(uv (x.e-x.b).toNat++pw x.ps))).length:=rfl;have:=ht1 bf;simp only [sp] at e⊢;omega,(qd hx).2.symm,by omega⟩
 refine .ao<| .h<| .lo 1 s19 2 rfl ?_
 have A12:=s19.tail.oc [0,1,2] 2
 refine .c 0 (CR _ _ _ _ _ (bs) c _ hr ho hn A12 (by omega)) rfl λ r13 _ h13=> ?_
 obtain ⟨rfl,wv12,p13⟩:=h13
 have s27:=(Sat.order [0,1,2] (by decide) p13.join).aI.nn
 refine .nil<| .seq ?_
 have hfin:bs++E1 c.nd c.hd c.rl=iR lexB bW c.v:=by rw [hbs,PV (by omega)];rw [ny];simp only [LW]
 refine .region<| .ld 3 s27 0 rfl<| .c 0 (pS _ (bs++E1 c.nd c.hd c.rl) _ (s27.ah 1 rfl) (by rw [hfin];exact Ap pU pV _) (by rw [sp];have:=BE ho hn;omega)) rfl λ r14 _ h14=> ?_
 have s28:=s27.az h14
 refine .e rfl (.cZ underlying45 underlying9 underlying5 rfl (s28.ah 3 rfl))<| .Z rfl<| .cj rfl rfl rfl ?_
 rw [hfin]
 exact ⟨rfl,s28.pk []⟩
theorem cT (v:Nat) (w:World) (hv:v<2^64):
  CallsV prog 141 [(.int .u64 v)] w λ r w'=>Sat w [cL r 5 (aa .u8) (uv v)] w':=by
 refine cg func141 rfl λ hs0=> .Z rfl<| .Z rfl<| .seq<| .block ?_
 have s1:=hs0.aA 5 (aa .u8)
 refine .loop (α:=Nat×Value×List Nat) (λ (v2,out,acc)=>[(0,(.int .u64 v2)),(3,out)]) (λ (v2,out,acc) w'=>Sat w [cL out 5 (aa .u8) (acc)] w'/\(v2<2^64)/\(acc++uv v2=uv v)) (λ (v2,out,acc)=>v2) (v,(.slice none 0 0),[]) (wk rfl) ⟨s1,hv,rfl⟩ ?_
 rintro ⟨v2,out,acc⟩ w1 ⟨s2,hv2,hacc⟩
 have hl2:=If List.length hacc
 simp only [sp] at hl2
 have hu1:=aD v
 have hu2:=Gc v2
 refine .seq<| .Z rfl<| .ae rfl (λ c1=> ?_) λ c1=> ?_
 ·refine .skip<| .block<| .h<| .a 2 rfl (.rem (b:=128) rfl rfl (by omega))<| .e rfl (.gR (by rw [underlying132]<;>rfl) underlying5 rfl rfl)<| .e rfl (.MZ (b:=128) rfl rfl rfl)<| .f rfl (.bU (aa .u8) ((((v2%128)%2^8)+128)%2^8) ch rfl s2 rfl λ v1 _ s3 _=> ?_)
  refine .ap 0 s3 0 (s3.ah 1 rfl) rfl λ v_2 _ s4 _=> ?_
  refine .Z rfl<| .region<| .a 1 rfl (.Oi (b:=128) rfl rfl rfl (by omega) (by (try simp only [IntKind.bits]);omega))<| .Z rfl ?_
  exact aT ((v2/128),v_2,acc++[((((v2%128)%2^8)+128)%2^8)]) ⟨s4.pk [0],by omega,by rw [<-hacc,xW hv2 c1,show ((((v2%128)%2^8)+128)%2^8)=v2%128+128 by omega];simp⟩
 refine .ao<| .h<| .a 2 rfl (.gR (by rw [underlying132]<;>rfl) underlying5 rfl rfl)<| .f rfl (.bU (aa .u8) (v2%2^8) ch rfl s2 rfl λ v3 _ s5 _=> ?_)
 refine .ap 0 s5 0 (s5.ah 1 rfl) rfl λ v_4 _ s6 _=> ?_
 refine .Z rfl<| .aC rfl rfl ?_
 have hq:acc++[(v2%2^8)]=uv v:=by rw [<-hacc,kU (by omega)]<;>(first|rfl|(congr 1;simp;omega))
 rw [<-hq];exact s6.pick [0] rfl
theorem mQ (x m:Nat) (w:World) (hx:x<2^64) (hm:m<=64):
  CallsV prog 204 [(.int .u64 x),(.int .i64 m)] w λ r w'=>Sat w [cL r 4 jb (aX x m)] w':=by
 refine cg func204 rfl λ hs0=> .Z rfl<| .Z rfl<| .seq<| .h<| .a 1 rfl (.sub (b:=(1:Int)) rfl rfl (by unfold aY;omega))<| .Z rfl<| .block ?_
 have s1:=hs0.aA 4 (jb)
 refine .lq [0] rfl (α:=Nat×Value×List Bool) (λ (m1,out,acc)=>[(5,out),(6,(.int .i64 ((((m1:Nat):Int)-1))))]) (λ (m1,out,acc) w'=>Sat w [cL out 4 (jb) (acc)] w'/\(m1<=m)/\(acc++aX x m1=aX x m)) (λ (m1,out,acc)=>m1) (m,(.slice none 0 0),[]) ⟨s1,KB _,rfl⟩ ?_
 rintro ⟨m1,out,acc⟩ w1 ⟨s2,hm1,hacc⟩
 refine .seq<| .h<| .a 1 rfl (.geq rfl rfl)<| .nil<| .ae rfl (λ c1=> ?_) λ c1=> ?_
 ·refine .skip<| .seq<| .block ?_
  obtain ⟨j,rfl⟩:∃ j,m1=j+1:=⟨m1-1,by omega⟩
  refine .weaken [(0,_),(5,_),(6,(.int .i64 j)),(9,_)] ⟨rfl,rfl,If some (If (Value.int .i64) (by omega)),rfl,trivial⟩ ?_
  have hl2:=If List.length hacc
  simp only [sp,aF] at hl2
  refine .region<| .a 4 rfl (.Ke rfl rfl (hx))<| .e rfl (.Hp (b:=1) 1 rfl rfl rfl (by decide) (SR (QH _ _) hx) (by decide))<| .b 1 rfl (.bU (jb) (decide (((x/2^j)%2^1)=1)) nZ rfl s2 rfl λ v1 _ s3 _=> ?_)
  refine .ap 0 s3 0 (s3.ah 1 rfl) rfl λ v2 _ s4 _=> ?_
  refine .Z rfl<| .region<| .a 1 rfl (.sub (b:=(1:Int)) rfl rfl (by unfold aY;omega))<| .Z rfl ?_
  exact ⟨(j,v2,acc++[decide (((x/2^j)%2^1)=1)]),(wk rfl),⟨s4.pk [0],by omega,by rw [<-hacc];simp [aX]⟩,(show ((j))<(j+1) from by omega)⟩
 refine .ao<| .Z rfl<| .aC rfl rfl ?_
 have h0:m1=0:=by omega
 subst h0
 rw [show acc=aX x m by rw [<-hacc];simp [aX]] at s2
 exact s2
theorem qH (v:Value) (l:List Bool) (w:World) (hv:RdL w v jb l) (hn:l.length<=1000000000):
  CallsV prog 148 [v] w λ r w'=>Sat w [cL r 5 (aa .u8) (aH l)] w':=by
 refine cg func148 rfl λ hs0=> .Z rfl<| .h<| .ln 1 (hv.ext hs0.ext) rfl<| .a 1 rfl (.quo (b:=8) rfl rfl (by omega) (by unfold aY;omega))<| .f rfl (.cP (aa .u8) (0) ch rfl hs0 rfl rfl (by omega) (by omega) (by omega) λ v1 _ s1 _=> ?_)
 refine .Z rfl<| .seq<| .h<| .ln 1 (hv.ext s1.ext) rfl<| .Z rfl<| .block ?_
 have s2:=s1.aZ 0 rfl (show List.replicate (((l.length+7)/8)) 0=rh l 0 from by rw [FD])
 refine .lq [3,11,12] rfl (α:=Nat) (λ k=>[(13,(.int .i64 k))]) (λ k w'=>Sat w [cL v1 5 (aa .u8) (rh l k)] w'/\(k<=l.length)) (λ k=>l.length-k) 0 ⟨s2,KD _⟩ ?_
 rintro k w2 ⟨s3,hk⟩
 refine .Z rfl<| .seq<| .ae rfl (λ c1=> ?_) λ c1=> ?_
 ·refine .skip<| .seq<| .block<| .seq ?_
  obtain ⟨x,hx⟩:∃ x,(l)[k]? =some x:=⟨_,py c1⟩
  refine .region<| .ix 1 (hv.ext s3.ext) rfl<| .le 0 (hv.ext s3.ext) hx rfl<| .Z rfl<| .Z rfl<| .cond rfl (λ c2=> ?_) (λ c2=> ?_)
  ·have hgt:=J3 (bQ hx)
   have hbl:=l1 (l.take k) (k/8)
   have hdl:=QH 128 (2^(k%8))
   refine .region<| .a 2 rfl (.quo (b:=8) rfl rfl (by omega) (by unfold aY;omega))<| .ix 0 (s3.ah 0 rfl) rfl (hj:=by rw [mo];omega)<| .le 0 (s3.ah 0 rfl) hgt rfl<| .a 1 rfl (.rem (b:=8) rfl rfl (by omega))<| .ix 3 (s3.ah 0 rfl) rfl (hj:=by rw [mo];omega)<| .f rfl (.cH (a:=((cA (l.take k) (k/8))|||(128/2^(k%8)))) 0 NO s3 rfl rfl rfl rfl (by rw [mo];omega) λ _ s4 _=> ?_)
   have s4:=s4.nn
   refine .nil<| .U rfl ?_
   have s5:=s4.aZ 0 rfl (show (rh l k).set (k/8) ((cA (l.take k) (k/8))|||(128/2^(k%8)))=rh l (k+1) from by rw [FE (by rw [hx,c2])])
   exact aT (k+1) ⟨s5,by omega⟩
  refine .skip<| .U rfl ?_
  have s6:=s3.aZ 0 rfl (show rh l k=rh l (k+1) from by rw [Dr (by rw [hx];simpa using c2)])
  exact aT (k+1) ⟨s6,by omega⟩
 refine .ao<| .Z rfl<| .aC rfl rfl ?_
 have s7:=s3.aZ 0 rfl (show rh l k=aH l from by rw [show k=l.length by omega,J2])
 exact s7
theorem EE (v:Nat) (w:World) (hv:v<4294967296):
  CallsV prog 149 [(.int .u32 v)] w λ r w'=>r= .int .u32 (cR v 8:Nat)/\Sat w [] w':=by
 refine cg func149 rfl λ hs0=> .Z rfl<| .seq<| .Z rfl<| .block<| .loop (α:=Nat×Nat) (λ (k,u)=>[(0,(.int .u32 u)),(3,(.int .i64 k))]) (λ (k,u) w'=>Sat w [] w'/\(k<=8)/\(u=cR v k)/\(u<4294967296)) (λ (k,u)=>8-k) (0,v) (wk rfl) ⟨hs0,KD _,rfl,hv⟩ ?_
 rintro ⟨k,u⟩ w1 ⟨s1,hk,hu,hub⟩
 refine .seq<| .Z rfl<| .ae rfl (λ c1=> ?_) λ c1=> ?_
 ·refine .skip<| .seq<| .block<| .Z rfl<| .ae rfl (λ c2=> ?_) λ c2=> ?_
  ·refine .region<| .a 2 rfl (.DY (b:=2197175160) rfl rfl rfl (by (try simp only [IntKind.bits]);omega) (by (try simp only [IntKind.bits]);omega))<| .Z rfl<| .U rfl ?_
   exact aT (k+1,((u/2^1)^^^2197175160)) ⟨s1,by omega,by rw [cR,<-hu];simp [st1,c2],by have:=rC hub;simpa [st1,c2] using this⟩
  refine .U rfl<| .U rfl ?_
  exact aT (k+1,(u/2^1)) ⟨s1,by omega,by rw [cR,<-hu];simp [st1,c2],by have:=rC hub;simpa [st1,c2] using this⟩
 refine .ao<| .Z rfl<| .aC rfl rfl ?_
 rw [show k=8 by omega] at hu
 exact ⟨by rw [hu],s1⟩
theorem IB (v:Value) (l:List Nat) (w:World) (hv:RdL w v (aa .u8) l) (hb:∀ x∈l,x<256) (hn:l.length<=1000000000):
  CallsV prog 95 [v] w λ r w'=>r= .int .u32 (iz l:Nat)/\Sat w [] w':=by
 refine cg func95 rfl λ hs0=> .Z rfl<| .Z rfl<| .seq<| .h<| .ln 1 (hv.ext hs0.ext) rfl<| .Z rfl<| .block<| .lq [6,7] rfl (α:=Nat×Nat) (λ (k,u)=>[(3,(.int .u32 u)),(8,(.int .i64 k))]) (λ (k,u) w'=>Sat w [] w'/\(k<=l.length)/\(u=y7 (l.take k))/\(u<4294967296)) (λ (k,u)=>l.length-k) (0,4294967295) ⟨hs0,KD _,rfl,by omega⟩ ?_
 rintro ⟨k,u⟩ w1 ⟨s1,hk,hu,hub⟩
 refine .Z rfl<| .seq<| .ae rfl (λ c1=> ?_) λ c1=> ?_
 ·refine .skip<| .seq<| .block<| .seq ?_
  obtain ⟨x,hx⟩:∃ x,(l)[k]? =some x:=⟨_,py c1⟩
  refine .region<| .ix 0 (hv.ext s1.ext) rfl<| .le 0 (hv.ext s1.ext) hx rfl<| .Z rfl ?_
  have hxb:=hb x (a7 hx)
  have haa:u^^^x<4294967296:=iQ hub (by omega)
  refine .region<| .a 3 rfl (.DY rfl rfl rfl (by (try simp only [IntKind.bits]);omega) (by (try simp only [IntKind.bits]);omega))<| .cp 0 s1 (EE ((u^^^x)) _ (haa)) rfl λ _ s2=> .Z rfl<| .U rfl ?_
  exact aT (k+1,(cR ((u^^^x)) 8)) ⟨s2,by omega,by rw [ak hx,oC,<-hu,xX],rD haa 8⟩
 refine .ao<| .h<| .a 1 rfl (.Lb rfl (by omega))<| .Z rfl<| .aC rfl rfl ?_
 rw [show k=l.length by omega,PW] at hu
 exact ⟨by rw [hu]<;>rfl,s1.pk []⟩
theorem jQ (v:Value) (l:List Nat) (w:World) (hv:RdL w v (aa .u8) l) (hb:∀ x∈l,x<256) (hn:l.length<=1000000000):
  CallsV prog 40 [v] w λ r w'=>Sat w [cL r 5 (aa .u8) (aM l)] w':=by
 refine cg func40 rfl λ hs0=> .Z rfl<| .h<| .cp 1 hs0 (IB _ (l) _ (hv.ext hs0.ext) (hb) (hn)) rfl λ _ s1=> .Z rfl<| .seq ?_
 have hsl:=nB hb
 refine .region<| .z 1 rfl ?_
 have s2:=s1.aA 5 (aa .u8)
 refine .ap 0 s2 0 (hv.ext s2.ext) rfl λ v1 _ s3 _=> .a 1 rfl (.gR (by rw [underlying144]<;>rfl) underlying5 rfl rfl)<| .a 2 rfl (.gR (by rw [underlying144]<;>rfl) underlying5 rfl rfl)<| .a 2 rfl (.gR (by rw [underlying144]<;>rfl) underlying5 rfl rfl)<| .a 2 rfl (.gR (by rw [underlying144]<;>rfl) underlying5 rfl rfl)<| .f rfl (.gW (aa .u8) [((iz (l))%2^8),(((iz (l))/2^8)%2^8),(((iz (l))/2^16)%2^8),(((iz (l))/2^24)%2^8)] ch rfl ⟨rfl,rfl,rfl,rfl,trivial⟩ rfl rfl rfl rfl (by decide) (by decide) s3 λ v2 _ s4 _=> ?_)
 refine .ap 0 s4 0 (s4.ah 1 rfl) rfl λ v3 _ s5 _=> ?_
 refine .Z rfl<| .aC rfl rfl ?_
 have s6:=(s5.pk [0]).pk [0]
 have s7:=s6.aZ 0 rfl (show l++[((iz (l))%2^8),(((iz (l))/2^8)%2^8),(((iz (l))/2^16)%2^8),(((iz (l))/2^24)%2^8)]=aM l from by simp [aM,nz])
 exact s7
theorem zL (v:Value) (l:List Nat) (w:World) (hv:RdL w v (aa .i64) l) (hn:l.length<=128) (hb:∀ x∈l,x<=2147483647):
  CallsV prog 266 [v] w λ r w'=>r= .int .i64 ((0:Nat):Int)/\Sat w [] w':=by
 refine cg func266 rfl λ hs0=> .Z rfl<| .seq<| .h<| .ln 1 (hv.ext hs0.ext) rfl<| .Z rfl<| .aj rfl (IN (by omega))<| .skip<| .seq<| .h<| .ln 1 (hv.ext hs0.ext) rfl<| .Z rfl<| .block<| .lq [8,9] rfl (α:=Nat) (λ k=>[(10,(.int .i64 k))]) (λ k w'=>Sat w [] w'/\(k<=l.length)) (λ k=>l.length-k) 0 ⟨hs0,KD _⟩ ?_
 rintro k w1 ⟨s1,hk⟩
 refine .Z rfl<| .seq<| .ae rfl (λ c1=> ?_) λ c1=> ?_
 ·refine .skip<| .seq<| .block<| .seq ?_
  obtain ⟨x,hx⟩:∃ x,(l)[k]? =some x:=⟨_,py c1⟩
  refine .region<| .ix 0 (hv.ext s1.ext) rfl<| .le 0 (hv.ext s1.ext) hx rfl<| .Z rfl<| .seq<| .bN 19 ((x<0)\/(2147483647<x)) ?_ ?_
  ·refine .z 3 rfl<| .B 16 rfl (λ g1=> ?_) λ g1=> ?_
   ·refine .M rfl (by simp [g1])
   refine .M rfl (by simp [g1])
  refine .aj rfl (IN (by have:=hb x (a7 hx);omega))<| .skip<| .U rfl ?_
  exact aT (k+1) ⟨s1,by omega⟩
 refine .ao<| .Z rfl<| .aC rfl rfl ?_
 exact ⟨rfl,s1⟩
theorem og (v:Value) (l:List Nat) (width:Nat) (w:World) (hv:RdL w v (aa .i64) l) (hn:l.length<=4096) (hb:∀ x∈l,x<2^63) (hw:width<=31):
  CallsV prog 240 [v,(.int .i64 width)] w λ r w'=>Sat w [cL r 5 (aa .u8) (iu width l)] w':=by
 refine cg func240 rfl λ hs0=> .Z rfl<| .Z rfl<| .Z rfl<| .Z rfl<| .seq<| .h<| .ln 1 (hv.ext hs0.ext) rfl<| .Z rfl<| .block ?_
 have s1:=hs0.aA 4 (jb)
 have s2:=s1.aA 5 (aa .u8)
 refine .lq [0,1,12,13] rfl (α:=Nat×Value×List Bool×Value×List Nat×Nat×Nat) (λ (k,wv,bits,ev,ex,c,b)=>[(5,wv),(6,ev),(7,(.int .i64 c)),(8,(.int .i64 ((((b:Nat):Int)-1)))),(14,(.int .i64 k))]) (λ (k,wv,bits,ev,ex,c,b) w'=>Sat w [cL wv 4 (jb) (bits),cL ev 5 (aa .u8) (ex)] w'/\(k<=l.length)/\(de width (l.take k)=(k,bits,ex,c,b))/\(bits.length<=31*k)/\(ex.length<=20*k)/\(c<=k)/\(b<=k)) (λ (k,wv,bits,ev,ex,c,b)=>l.length-k) (0,(.slice none 0 0),[],(.slice none 0 0),[],0,0) ⟨s2,KD _,rfl,by simp,by simp,KB _,KB _⟩ ?_
 rintro ⟨k,wv,bits,ev,ex,c,b⟩ w1 ⟨s3,hk,hst,hbl,hel,hcb,hbb⟩
 refine .Z rfl<| .seq<| .ae rfl (λ c1=> ?_) λ c1=> ?_
 ·refine .skip<| .seq<| .block<| .seq ?_
  obtain ⟨x,hx⟩:∃ x,(l)[k]? =some x:=⟨_,py c1⟩
  refine .region<| .ix 1 (hv.ext s3.ext) rfl<| .le 0 (hv.ext s3.ext) hx rfl<| .Z rfl<| .seq ?_
  have hx64:=hb x (a7 hx)
  have hxd:=QH x (2^width)
  have h8:=aD (k+1-b)
  have h9:=aD (x/2^width)
  refine .region<| .c 4 (mQ (x) (width) _ (by omega) (by omega)) rfl λ r1 _ h_1=> ?_
  have s4:=s3.az h_1
  refine .ap 0 s4 0 (s4.ah 2 rfl) rfl (h1:=by (try simp only [sp,aF]);omega) (h2:=by (try simp only [sp,aF]);omega) λ v1 _ s5 _=> .Z rfl<| .Z rfl<| .ae rfl (λ c2=> ?_) λ c2=> ?_
  ·refine .Z rfl<| .h<| .a 3 rfl (.lk rfl rfl (by omega) (by omega))<| .c 1 (cT ((k+1-b)) _ (by omega)) rfl λ r2 _ h_2=> ?_
   have s6:=s5.az h_2
   refine .ap 0 s6 1 (s6.ah 3 rfl) rfl (h1:=by (try simp only [sp]);omega) (h2:=by (try simp only [sp]);omega) λ v2 _ s7 _=> .c 5 (cT ((x/2^width)) _ (by omega)) rfl λ r3 _ h_3=> ?_
   have s8:=(s7.az h_3).nn
   refine .ap 0 s8 1 (s8.ah 4 rfl) rfl (h1:=by (try simp only [sp]);omega) (h2:=by (try simp only [sp]);omega) λ v3 _ s9 _=> ?_
   have s9d:Sat w [_,cL v3 5 (aa .u8) (ex++uv ((k+1-b))++uv ((x/2^width))),_,_,cL r3 5 (aa .u8) (uv ((x/2^width)))] _:=s9
   refine .Z rfl<| .U rfl<| .trim [0,1,5,6,7,8,9,10,12,13,14] rfl<| .U rfl ?_
   exact ⟨(k+1,v1,bits++aX x width,v3,ex++uv ((k+1-b))++uv ((x/2^width)),(c+1),k+1),⟨rfl,rfl,rfl,If some (If (Value.int .i64) (by omega)),rfl,rfl,rfl,rfl,rfl,trivial⟩,⟨s9d.pk [0,1],by omega,by rw [ak hx,eE,hst,dD,PI (Nat.pos_of_ne_zero c2),rf _ _ _ (KB _)],by simp only [sp,aF];omega,by have h8:=aD (k+1-b);have h9:=aD (x/2^width);(try simp only [sp]);omega,by omega,by omega⟩,by dsimp only;omega⟩
  refine .skip<| .U rfl ?_
  exact aT (k+1,v1,bits++aX x width,ev,ex,c,b) ⟨s5.pk [0,1],by omega,by rw [ak hx,eE,hst,dD,M2 (λ h=>c2 (Nat.ne_of_gt h)),rf _ _ _ (KB _)],by simp only [sp,aF];omega,by have h8:=aD (k+1-b);have h9:=aD (x/2^width);(try simp only [sp]);omega,by omega,by omega⟩
 refine .ao<| .seq ?_
 have hpl:=bc bits
 have h1:=aD l.length
 have h2:=aD width
 have h3:=aD c
 refine .region<| .ln 1 (hv.ext s3.ext) rfl<| .c 1 (cT (l.length) _ (by omega)) rfl λ r4 _ h4=> ?_
 have s12:=s3.az h4
 refine .c 2 (cT (width) _ (by omega)) rfl λ r5 _ h5=> ?_
 have s13:=s12.az h5
 refine .ap 0 s13 2 (s13.ah 3 rfl) rfl (h1:=by (try simp only [sp]);omega) (h2:=by (try simp only [sp]);omega) λ v_4 _ s14 _=> .Z rfl<| .h<| .c 3 (cT (c) _ (by omega)) rfl λ r6 _ h6=> ?_
 have s15:=(s14.az h6).nn
 refine .ap 0 s15 2 (s15.ah 4 rfl) rfl (h1:=by (try simp only [sp]);omega) (h2:=by (try simp only [sp]);omega) λ v5 _ s16 _=> .c 1 (qH _ (bits) _ (s16.ah 0 rfl) (by omega)) rfl λ r7 _ h7=> ?_
 have s17:=s16.az h7
 refine .ap 0 s17 2 (s17.ah 5 rfl) rfl (h1:=by (try simp only [sp]);omega) (h2:=by (try simp only [sp]);omega) λ v6 _ s18 _=> ?_
 have s18d:Sat w [_,_,cL v6 5 (aa .u8) (uv (l.length)++uv (width)++uv (c)++aH (bits)),_,_,cL r7 5 (aa .u8) (aH (bits))] _:=s18
 refine .Z rfl<| .h<| .ap 2 s18d 2 (s18d.ah 1 rfl) rfl (h1:=by (try simp only [sp]);omega) (h2:=by (try simp only [sp]);omega) λ v7 _ s19 _=> .Z rfl<| .aC rfl rfl ?_
 have s21:=(s19.pk [2]).aZ 0 rfl (show uv (l.length)++uv (width)++uv (c)++aH (bits)++ex=iu width l from by unfold iu;rw [show de width l=(k,bits,ex,c,b) by rw [<-hst,show k=l.length by omega,PW]])
 exact s21
theorem CS (v:Value) (l:List Nat) (w:World) (hv:RdL w v (aa .i64) l) (hn:l.length<=128) (hb:∀ x∈l,x<=2147483647):
  CallsV prog 241 [v] w λ r w'=>r= .int .i64 ((dm l 32:Nat):Int)/\Sat w [] w':=by
 refine cg func241 rfl λ hs0=> .seq ?_
 have hb63:∀ x∈l,x<2^63:=λ x hx=>by have:=hb x hx;omega
 refine .U rfl<| .seq<| .h<| .cp 1 hs0 (zL _ (l) _ (hv.ext hs0.ext) (hn) (hb)) rfl λ _ s1=> .Z rfl<| .aj rfl (rfl)<| .skip<| .Z rfl<| .seq<| .Z rfl<| .block<| .lq [0] rfl (α:=Nat×Nat) (λ (m,bw)=>[(3,(.int .i64 bw)),(4,(.int .i64 m))]) (λ (m,bw) w'=>Sat w [] w'/\(1<=m)/\(m<=32)/\(bw=dm l m)/\(bw<=31)) (λ (m,bw)=>32-m) (1,0) ⟨s1,KB _,by omega,by simp [dm],by omega⟩ ?_
 rintro ⟨m,bw⟩ w2 ⟨s2,hm1,hm,hbw,hbl⟩
 refine .seq<| .Z rfl<| .ae rfl (λ c1=> ?_) λ c1=> ?_
 ·refine .skip<| .seq<| .block<| .h<| .c 2 (og _ (l) (m) _ (hv.ext s2.ext) (by omega) (hb63) (by omega)) rfl λ r2 _ h2=> ?_
  have s3:=s2.az h2
  refine .ln 0 (s3.ah 0 rfl) rfl<| .c 2 (og _ (l) (bw) _ (hv.ext s3.ext) (by omega) (hb63) (by omega)) rfl λ r3 _ h3=> ?_
  have s4:=(s3.az h3).nn
  refine .ln 0 (s4.ah 1 rfl) rfl<| .Z rfl<| .ae rfl (λ c2=> ?_) λ c2=> ?_
  ·refine .U rfl<| .U rfl ?_
   exact aT (m+1,m) ⟨s4.pk [],by omega,by omega,by rw [dm,<-hbw,kV (by omega) (by omega) hb63,kV (by omega) (by omega) hb63,PI c2],by omega⟩
  refine .skip<| .U rfl ?_
  exact aT (m+1,bw) ⟨s4.pk [],by omega,by omega,by rw [dm,<-hbw,kV (by omega) (by omega) hb63,kV (by omega) (by omega) hb63,M2 c2],by omega⟩
 refine .ao<| .Z rfl<| .aC rfl rfl ?_
 rw [show m=32 by omega] at hbw
 exact ⟨by rw [hbw],s2⟩
theorem CU (v:Value) (l:List Nat) (w:World) (hv:RdL w v (aa .i64) l) (hn:l.length<=128) (hb:∀ x∈l,x<=2147483647):
  CallsV prog 203 [v] w λ r w'=>Sat w [cL r 5 (aa .u8) (bD l)] w':=by
 refine cg func203 rfl λ hs0=> .seq ?_
 have hb63:∀ x∈l,x<2^63:=λ x hx=>by have:=hb x hx;omega
 refine .U rfl<| .h<| .cp 2 hs0 (CS _ (l) _ (hv.ext hs0.ext) (hn) (hb)) rfl λ _ s1=> .c 0 (og _ (l) ((dm l 32)) _ (hv.ext s1.ext) (by omega) (hb63) (by have:=gL l 32;omega)) rfl λ r2 _ h2=> ?_
 have s2:=s1.az h2
 refine .Z rfl<| .aC rfl rfl ?_
 exact s2
end Go.Proofs.YthffkcnbdehceaaGreat
