/-The walks of the functions of F41c,printed by our own program (kwgen.py) out of our descriptions (base.py). -/
import Derived.Test.YthffkcnbdehceaaGreatF06m
open List
open Go.Proofs.Tryz
set_option linter.unusedVariables false
set_option linter.unusedSimpArgs false
set_option linter.unusedSectionVars false
namespace Go.Proofs.YthffkcnbdehceaaGreat
open Go.RowKit Go.Kw
set_option maxRecDepth 100000
def K0 (c:Co):Prop:=∀ k,br (ek (eK c k))=0
theorem EF {vs:List ByteArray} (h:dn vs=0):okW (a8 vs):=Be (AS h)
theorem lK (v:Value) (b:List Nat) (w:World) (hv:RdL w v (aa .u8) b) (h0:b=[]):
  CallsV prog 96 [v] w λ r w'=>r= .tuple #[.slice none 0 0,.int .i64 ((10:Nat):Int)]/\Sat w [] w':=by
 have hbl:b.length=0:=by rw [h0]<;>rfl
 have hs0:=Sat.start w
 refine ai func96 rfl rfl ?_
 refine .Z rfl<| .seq<| .h<| .ln 1 (hv.ext hs0.ext) rfl<| .Z rfl<| .ea rfl (PM (by omega))<| .Z rfl<| .cj rfl rfl rfl ?_
 exact ⟨rfl,hs0.pk []⟩
theorem EG (v:Value) (b:List Nat) (w:World) (hv:RdL w v (aa .u8) b) (h0:b=[]):
  CallsV prog 152 [v] w λ r w'=>r= .tuple #[.pointer none,.int .i64 ((9:Nat):Int)]/\Sat w [] w':=by
 have hbl:b.length=0:=by rw [h0]<;>rfl
 have hs0:=Sat.start w
 refine ai func152 rfl rfl ?_
 refine .Z rfl<| .h<| .cp 1 hs0 (lK _ (b) _ (hv.ext hs0.ext) h0) rfl λ _ s1=> .Z rfl<| .seq<| .Z rfl<| .ea rfl (rfl)<| .Z rfl<| .cj rfl rfl rfl ?_
 exact ⟨rfl,s1.pk []⟩
theorem xq (v:Value) (b:List Nat) (w:World) (hv:RdL w v (aa .u8) b) (h0:b=[]):
  CallsV prog 153 [v] w λ r w'=>r= .tuple #[.pointer none,.int .i64 ((9:Nat):Int)]/\Sat w [] w':=by
 have hbl:b.length=0:=by rw [h0]<;>rfl
 have hs0:=Sat.start w
 refine ai func153 rfl rfl ?_
 refine .Z rfl<| .h<| .cp 1 hs0 (lK _ (b) _ (hv.ext hs0.ext) h0) rfl λ _ s1=> .Z rfl<| .seq<| .Z rfl<| .ea rfl (rfl)<| .Z rfl<| .cj rfl rfl rfl ?_
 exact ⟨rfl,s1.pk []⟩
theorem EH (v:Value) (b:List Nat) (w:World) (hv:RdL w v (aa .u8) b) (h0:b=[]):
  CallsV prog 156 [v] w λ r w'=>r= .tuple #[.pointer none,.int .i64 ((9:Nat):Int)]/\Sat w [] w':=by
 have hbl:b.length=0:=by rw [h0]<;>rfl
 have hs0:=Sat.start w
 refine ai func156 rfl rfl ?_
 refine .Z rfl<| .h<| .cp 1 hs0 (lK _ (b) _ (hv.ext hs0.ext) h0) rfl λ _ s1=> .Z rfl<| .seq<| .Z rfl<| .ea rfl (rfl)<| .Z rfl<| .cj rfl rfl rfl ?_
 exact ⟨rfl,s1.pk []⟩
def B9:Enc (Option Nat):=⟨1,λ b=>[.pointer (b.map λ b=>⟨b,0,none⟩)],λ _=>rfl,λ x u h=>by simp at h;subst h;rfl⟩
theorem OL {us:List ByteArray} (h:us.length<=1024/\(a8 us).length<=8):∀ c∈ar us,1<=c/\c<=4096:=have h:=h.1;λ c hc=>⟨(Qh hc).elim λ i hi=>lI hi,by have:=B7 us c hc;omega⟩
theorem Li {us:List ByteArray} (h:us.length<=1024/\(a8 us).length<=8):(ar us).sum<=4096:=by rw [zz];omega
set_option maxHeartbeats 4000000 in
theorem IC (w0 w:World) (cs:List Chunk) (g:Nat) (bv:Value) (s:RS) (x4 x5 x6 x7 x8 x10 av tv iv:Value) (X:Bool) (c:Co) (n k:Nat) (a:ByteArray×Bool) (r:List Nat) (as_:List (ByteArray×Bool)) (S:List (SV×List ByteArray)) (ixs:List VV) (hs:Sat w0 ([aq g 158 [bv,.bool (!s.1),av,tv,x4,x5,x6,x7,x8,iv,x10],cL av 86 cE (as_),cL tv 28 (ck ByteArray) (S),bh 9 ax (S),cL iv 111 jX (ixs)]++cs) w) (hb:RdL w0 bv (aa .u8) s.2) (hB:RB s) (ho:OkC n c) (hn:n<=3) (h0:K0 c) (hat:c.at_[k]? =some a) (has:as_=c.at_.take k) (hS:0<k->S.map Prod.snd=c.tk.map λ t=>t.ns.take k) (hix:ixs.length<=k) (hAt:At X s (jJ lexB bW a (eK c k)++r)):
  CallsV prog 98 [(.pointer (some ⟨g,0,none⟩))] w λ r' w'=>r'= .tuple #[]/\∃ (s':RS) (bv' av':Value) (as':List (ByteArray×Bool)) (tv':Value) (S':List (SV×List ByteArray)) (iv':Value) (ixs':List VV),RdL w0 bv' (aa .u8) s'.2/\RB s'/\At X s' r/\(s'.1=true->as'=c.at_.take (k+1)/\S'.map Prod.snd=c.tk.map λ t=>t.ns.take (k+1))/\ixs'.length<=k+1/\Sat w0 ([aq g 158 [bv',.bool (!s'.1),av',tv',x4,x5,x6,x7,x8,iv',x10],cL av' 86 cE (as'),cL tv' 28 (ck ByteArray) (S'),bh 9 ax (S'),cL iv' 111 jX (ixs')]++cs) w':=by
 have htk:=ho.ntk
 have hal:=bQ hat
 have hok:=pZ ho hn hal
 obtain ⟨us,hu0⟩:∃ us,us=eK c k:=⟨_,rfl⟩
 rw [<-hu0] at hok hAt
 obtain ⟨hbe,hus⟩:=hok
 have hul:us.length=c.tk.length:=by rw [hu0,k9]
 have hwl:=bI us
 obtain ⟨l,hl0⟩:∃ l,l=ek us:=⟨_,rfl⟩
 have hl:OkN l:=by rw [hl0];exact ve hus.1
 have hll:l.length=us.length:=by rw [hl0];unfold ek;rw [No]
 have hxl:=mO hus
 have htl:(bW l).length<=2000004:=by rw [hl0];exact mP hus.1
 have hnsz:=bk (ho.at_.1 k a hat).1
 have hu8:=ho.at_.2
 have hask:as_.length=k:=by rw [has,KV];omega
 have hkt:∀ t∈c.tk,k<t.ns.length:=λ t ht=>by rw [(ho.tk t ht).1];exact hal
 have hSl:0<k->S.length=l.length:=λ h=>by have h9:=If List.length (hS h);rw [No,No] at h9;omega
 unfold jJ at hAt
 rw [<-hl0] at hAt
 simp only [LW] at hAt
 have hz3:=Q7 (Al (aS (aP s).2).2) hB.tx.nm.len
 have hz4:=Q7 (Al (aP (aS (aP s).2).2).2) hB.tx.nm.tx.len
 obtain ⟨A1,B1⟩:=ru hAt (by omega)
 obtain ⟨A2,B2⟩:=ig A1 (by split<;>omega)
 obtain ⟨A3,B3⟩:=vE A2 (by omega)
 obtain ⟨A4,B4⟩:=vE (s:=(aP (aS (aP s).2).2).2) A3 (by omega)
 refine ai func98 rfl rfl ?_
 refine .seq<| .dt [1,2,3,4] hs rfl (pl [0,1,2,4,5,6,1003,1007,8,9] .fin) λ s_1 S_1=> .z 6 S_1 rfl ?_
 have A_1:=s_1.oc [0,1,2,3,4] 1
 refine .c 0 S_1 (cc _ _ _ _ _ s _ _ _ _ _ _ _ _ _ A_1 hb hB) rfl λ r1 _ h_1=> ?_
 obtain ⟨rfl,bv_1,hbv1,p1⟩:=h_1
 have s2:=p1.join.od [0,1,2,3,4]
 have S2:=s2.pt [1,2,3,4]
 refine ⟨S2,?_⟩
 have A_2:=s2.oc [0,1,2,3,4] 1
 refine .c 0 S2 (bO _ _ _ _ _ (aP s).2 _ _ _ _ _ _ _ _ _ A_2 hbv1 (RB.tx hB)) rfl λ r2 _ h_2=> ?_
 obtain ⟨rfl,bv2,hbv2,p2⟩:=h_2
 have s3:=p2.join.od [0,1,2,3,4]
 have S3:=s3.pt [1,2,3,4]
 refine ⟨S3,?_⟩
 refine .Z S3 rfl<| .seq ?_
 rcases QK ((aP (aS (aP s).2).2).2).1 with h3|h3
 ·have E3:bF (aP (aS (aP s).2).2).1=lexB us:=by show bF (strOf (jB (aS (aP s).2).2.1 (aS (aP s).2).2.2).1)=_;rw [(B3 h3).2,gE (pU us)]
  refine .region<| .z 3 rfl ?_
  have A_3:=s3.oc [0,1,2,3,4] 1
  refine .c 0 (cc _ _ _ _ _ (aS (aP s).2).2 _ _ _ _ _ _ _ _ _ A_3 hbv2 (RB.nm (RB.tx hB))) rfl λ r3 _ h_3=> ?_
  obtain ⟨rfl,bv3,hbv3,p3⟩:=h_3
  have s4:=p3.join.od [0,1,2,3,4]
  refine .f rfl (.gn underlying9 underlying45 underlying5 s4 rfl (by omega) λ v1 _ s5=> ?_)
  have s5d:=s5.mn
  refine .c 0 (Iw _ (bF ((aP (aS (aP s).2).2).1)) (a8 us) (ar us) _ (s5d.o3 5 rfl) E3 (EF hbe) (eU _) (λ x hx=>hus.2 x (cB.1 hx)) (OL hus.1) (Li hus.1) (by omega)) rfl λ r4 _ h_4=> ?_
  obtain ⟨dg1,dvw1,dvc1,dvo1,rfl,p4⟩:=h_4
  have s6:=(s5d.az p4).mn
  refine .Z rfl<| .seq ?_
  rcases QK ((aP (aP (aS (aP s).2).2).2).2).1 with h4|h4
  ·have E4:bF (aP (aP (aS (aP s).2).2).2).1=bW l:=by show bF (strOf (jB (aP (aS (aP s).2).2).2.1 (aP (aS (aP s).2).2).2.2).1)=_;rw [(B4 h4).2,gE (pV l)]
   refine .region<| .z 3 rfl ?_
   have A_4:=s6.oc [0,1,2,3,4,5,6,7,8,9] 1
   refine .c 0 (cc _ _ _ _ _ (aP (aS (aP s).2).2).2 _ _ _ _ _ _ _ _ _ A_4 hbv3 (RB.tx (RB.nm (RB.tx hB)))) rfl λ r_5 _ h5=> ?_
   obtain ⟨rfl,bv4,hbv4,p5⟩:=h5
   have s7:=p5.join.od [0,1,2,3,4,5,6,7,8,9]
   refine .f rfl (.gn underlying9 underlying45 underlying5 s7 rfl (by omega) λ v2 _ s8=> ?_)
   have s8d:=s8.mn
   refine .c 0 (zK _ (bF ((aP (aP (aS (aP s).2).2).2).1)) (l) _ (s8d.o3 10 rfl) (hl) (by rw [hl0,hu0];exact h0 k) (E4)) rfl λ r_6 _ h_6=> ?_
   obtain ⟨g1,lv_1,bv5,ps1,rfl,hps1,p6⟩:=h_6
   have s9:=(s8d.az p6).mn
   refine .Z rfl<| .seq<| .seq<| .wI (λ L' w'=>Weak [(0,(.pointer (some ⟨g,0,none⟩))),(2,(.string (aP s).1)),(3,(.int .i64 ((aS (aP s).2).1:Nat))),(4,(.pointer (some ⟨dg1,0,none⟩))),(5,(.int .i64 (0:Nat))),(6,(.pointer (some ⟨g1,0,none⟩))),(7,(.int .i64 (0:Nat))),(75,(.bool false))] L'/\Sat w0 ([aq g 158 [bv4,(.bool (!(aP (aP (aS (aP s).2).2).2).2.1)),av,tv,x4,x5,x6,x7,x8,iv,x10],cL av 86 (cE) (as_),cL tv 28 (ck ByteArray) (S),bh 9 ax (S),cL iv 111 (jX) (ixs),Fx v1 (aa .u8) (bF ((aP (aS (aP s).2).2).1)),aq dg1 166 [dvw1,dvc1,dvo1],cL dvw1 9 (ax) (a8 us),cL dvc1 3 (aa .i64) (ar us),cL dvo1 3 (aa .i64) (ordN (a8 us)),Fx v2 (aa .u8) (bF ((aP (aP (aS (aP s).2).2).2).1)),aq g1 245 [(.int .i64 ((l).length:Nat)),(.int .i64 (br l)),lv_1,bv5,(.int .i64 (0:Nat)),(.slice none 0 0)],cL lv_1 3 (aa .i64) (e9 l),cL bv5 248 (df) (ps1),cG (ps1),cL (Value.slice none 0 0) 3 (aa .i64) ([])]++cs) w') ?_ ?_
   ·rcases QF as_.length with hz|hz
    ·refine .dt [0,1,2,3,4,5,6,7,8,9,10,11,12,13,14,15] s9 rfl (pl [0,1,2,3,4,5,6,7,8,9,10,11,12,13,14,15,16,17,18,19,20,21,22,24,25,26,27,28,29,1023,30,31,32] .fin) λ s10 S4=> .ld 4 S4 0 rfl<| .z 1 S4 rfl<| .Gf 48 rfl (by simp [h4])<| .ld 12 S4 0 rfl<| .ln 0 S4 (·.ah 1 rfl) rfl<| .z 2 S4 rfl<| .Gf 64 rfl (IN (by omega))<| .Z S4 rfl ?_
     exact ⟨(wk rfl),s10⟩
    refine .dt [0,1,2,3,4,5,6,7,8,9,10,11,12,13,14,15] s9 rfl (pl [0,1,2,3,4,5,6,7,8,9,10,11,12,13,14,15,16,17,18,19,20,21,22,24,25,26,27,28,29,1023,30,31,32] .fin) λ s11 S5=> .ld 4 S5 0 rfl<| .z 1 S5 rfl<| .Gf 48 rfl (by simp [h4])<| .ld 12 S5 0 rfl<| .ln 0 S5 (·.ah 1 rfl) rfl<| .z 2 S5 rfl<| .Gt 64 rfl (PM (by omega))<| .ld 5 S5 0 rfl<| .ln 0 S5 (·.ah 2 rfl) rfl<| .c 0 S5 (AW _ ((l).length) _ (s11.cell (i:=11) (j:=0) rfl rfl)) rfl λ r7 _ h7=> ?_
    obtain ⟨rfl,p7⟩:=h7
    have s12:=(s11.az p7).mn
    have S6:=s12.pt [0,1,2,3,4,5,6,7,8,9,10,11,12,13,14,15]
    refine ⟨S6,?_⟩
    refine .Z S6 rfl ?_
    exact ⟨⟨rfl,rfl,rfl,rfl,rfl,rfl,rfl,If some (If Value.bool (IN (λ h=>h (by rw [hSl (by omega)])))),trivial⟩,s12⟩
   rintro L' w10 ⟨hw1,s13⟩
   refine .weaken _ hw1<| .aj rfl (rfl)<| .skip ?_
   have s14:=s13.pt [0,1,2,3,4,6,7,8,9,11,12,13,14,15]
   obtain ⟨r5,hr5⟩:∃ r5,(aP (aP (aS (aP s).2).2).2).2=(true,r5):=⟨_,Sd h4 rfl⟩
   have hB5:RB (true,r5):=hr5▸(RB.tx (RB.tx (RB.nm (RB.tx hB))))
   have A5:At X (true,r5) (FL l 0 (a8 us).length++r):=by rw [FN];exact hr5▸A4
   rw [hr5] at s14 hbv4
   refine .jn [0,2,3,4,5,6,7] rfl (λ K L' w'=>∃ (tv0:Value) (S0:List (SV×List ByteArray)),Weak K L'/\Sat w0 (s14.V [(0,aq g 158 [bv4,(.bool (!(true,r5).1)),av,tv0,x4,x5,x6,x7,x8,iv,x10]),(2,cL tv0 28 (ck ByteArray) (S0)),(3,bh 9 ax (S0))]++cs) w'/\(S0.map Prod.snd=c.tk.map λ t=>t.ns.take k)) ?_ ?_
   ·refine .h<| .ld 4 s14 0 rfl<| .ln 0 (s14.ah 1 rfl) rfl<| .Z rfl<| .ae rfl (λ c1=> ?_) λ c1=> ?_
    ·refine .region<| .cm 2 s14 (AW _ ((l).length) _ (s14.cell (i:=9) (j:=0) rfl rfl)) rfl λ _ s15=> .f rfl (.cP (ck ByteArray) ((⟨none,0,0⟩,[])) AJ rfl s15 rfl rfl (by omega) (by omega) (by omega) λ v3 _ s16 _=> ?_)
     have s16d:=s16.mn
     refine .st 3 s16d 0 rfl (h1:=(s16d.ah 14 rfl).ab) λ _ s17 _=> ?_
     have s17d:=s17.sn
     refine .nil ?_
     have s18:=s17d.yZ 9 ax (l.length) rfl
     have s19:=(s18.od [0,1,14,15,4,5,6,7,8,9,10,11,12,13,2,3]).pt [0,1,2,3,4,5,6,7,8,9,10,11,12,13]
     exact ⟨v3,List.replicate ((l).length) (⟨none,0,0⟩,[]),(wk rfl),s19,Nq (by omega) (by omega)⟩
    refine .skip ?_
    exact ⟨tv,S,(wk rfl),s14,hS (by omega)⟩
   rintro L' w14 ⟨tv0,S0,hw2,s20,hS0⟩
   refine .weaken _ hw2<| .h<| .ld 5 s20 0 rfl<| .a 3 rfl (.build Hb rfl ⟨rfl,rfl,trivial⟩ rfl)<| .f rfl (.cn (cE) ((aP s).1,decide ((aS (aP s).2).1=1)) DU (by decide) (by decide) s20 rfl λ v_4 _ s21 _=> ?_)
   have s21d:=s21.mn
   refine .ap 0 s21d 1 (s21d.ah 14 rfl) rfl (h1:=by simp only [KM];omega) (h2:=by simp only [KM];omega) λ v5 _ s22 _=> ?_
   have s22d:=(s22.sn).pt [0,1,2,3,4,5,6,7,8,9,10,11,12,13]
   refine .st 3 s22d 0 rfl (h1:=(s22d.ah 1 rfl).ab) λ _ s23 _=> ?_
   have s23d:=s23.sn
   refine .nil<| .seq<| .h<| .ld 4 s23d 0 rfl<| .ln 0 (s23d.ah 2 rfl) rfl<| .Z rfl<| .block ?_
   have hS0l:S0.length=l.length:=by have h9:=If List.length hS0;rw [No,No] at h9;omega
   refine .lq [0,2,3,4,5,6,7,114] rfl (α:=Nat×Nat×Value×List Nat×List (SV×List ByteArray)) (λ (i,last,kv,blk,S1)=>[(115,(.int .i64 i))]) (λ (i,last,kv,blk,S1) w'=>Sat w0 (s23d.V [(2,cL tv0 28 (ck ByteArray) (S1)),(3,bh 9 ax (S1)),(9,aq g1 245 [(.int .i64 l.length),(.int .i64 (br l)),lv_1,bv5,(.int .i64 last),kv]),(13,cL kv 3 (aa .i64) (blk))]++cs) w'/\(CacheOk l last blk)/\(S1.map Prod.snd=iP c k i)/\(i<=S0.length)) (λ (i,last,kv,blk,S1)=>S0.length-i) (0,0,(.slice none 0 0),[],S0) ⟨s23d,CacheOk.zero l,by rw [Ao];exact hS0,KD _⟩ ?_
   rintro ⟨i,last,kv,blk,S1⟩ w18 ⟨s24,hca,hS1,hil⟩
   refine .Z rfl<| .seq<| .ae rfl (λ c2=> ?_) λ c2=> ?_
   ·refine .skip<| .seq<| .block<| .Z rfl<| .h<| .z 2 rfl ?_
    have A_5:=s24.oc [9,10,11,12,13,0,1,2,3,4,5,6,7,8] 5
    refine .c 0 (Lg _ _ _ _ _ _ _ (l) (blk) (ps1) (last) A_5 (hl) (by rw [hl0,hu0];exact h0 k) (hps1) (hca) (i) (by omega)) rfl λ r9 _ h_9=> ?_
    obtain ⟨ax1,hax1,rfl,last1,kv1,blk1,hca1,p9⟩:=h_9
    have s25:=p9.join.od [5,6,7,8,9,10,11,12,13,0,1,2,3,4]
    refine .Z rfl<| .h<| .cm 2 s25 (Ib _ _ _ _ _ _ _ ((ax1:Nat):Int) _ (s25.uD 5 6 7 8 rfl rfl rfl rfl)) rfl λ _ s26=> .Z rfl<| .seq ?_
    obtain ⟨v,hv⟩:∃ v,us[i]? =some v:=⟨_,py (by omega)⟩
    have hxe:ax1=bJ (a8 us) v:=by have h9:=hax1;rw [hl0] at h9;unfold ek at h9;rw [PX,hv] at h9;exact (Qz h9).symm
    have hwd:j8 (a8 us) ((ax1:Nat):Int)=(v,true):=by rw [hxe];exact zy (jy (a7 hv))
    refine .weaken [(0,_),(2,_),(3,_),(4,_),(5,_),(6,_),(7,_),(8,_),(9,_),(10,_),(11,(.string v)),(12,_),(114,_),(115,_),(117,_),(118,_),(119,_),(120,_),(121,_),(122,_),(123,_),(124,_),(125,_),(126,_),(127,_),(128,_),(129,_)] ⟨rfl,rfl,rfl,rfl,rfl,rfl,rfl,rfl,rfl,rfl,If some (If (λ q:ByteArray×Bool=>Value.string q.1) hwd),rfl,rfl,rfl,rfl,rfl,rfl,rfl,rfl,rfl,rfl,rfl,rfl,rfl,rfl,rfl,rfl,trivial⟩<| .weaken [(0,_),(2,_),(3,_),(4,_),(5,_),(6,_),(7,_),(8,_),(9,_),(10,_),(11,_),(12,(.bool true)),(114,_),(115,_),(117,_),(118,_),(119,_),(120,_),(121,_),(122,_),(123,_),(124,_),(125,_),(126,_),(127,_),(128,_),(129,_)] ⟨rfl,rfl,rfl,rfl,rfl,rfl,rfl,rfl,rfl,rfl,rfl,If some (If (λ q:ByteArray×Bool=>Value.bool q.2) hwd),rfl,rfl,rfl,rfl,rfl,rfl,rfl,rfl,rfl,rfl,rfl,rfl,rfl,rfl,rfl,trivial⟩<| .region<| .ld 5 s26 0 rfl<| .st 7 s26 0 rfl λ _ s27 _=> ?_
    have s27d:=s27.sn
    refine .nil ?_
    have hS1l:S1.length=c.tk.length:=by have h9:=If List.length hS1;rwa [No,tV] at h9
    obtain ⟨p,hp⟩:∃ p,S1[i]? =some p:=⟨_,py (by omega)⟩
    have hpl:p.2.length<=100:=by have h9:(S1.map Prod.snd)[i]? =some p.2:=(by rw [PX,hp]<;>rfl);rw [hS1] at h9;exact Ds ho h9
    have s28:=s27d.Cc 3 rfl rfl hp rfl
    have hshp1:=(s28.ah (E:=ck ByteArray) 2 rfl).iH (by decide)
    have hshp2:=(s28.ah (E:=ax) 14 rfl).iH (by decide)
    refine .fk [0,1,2,3,4,5,6,7,8,9,10,11,12,13] [0,1,3,4,5,6,7,8,9,10,11,12,13] s28 rfl rfl 18 (pl [0,1,2,3,4,5,6,7,8,9,10,11,12,13,14,1015,1016,17] (.bar 18 .fin)) mixed (by kernel_rfl) ?_
    have s29:=s28.drew
    have S7:=s29.pt [0,1,2,3,4,5,6,7,8,9,10,11,12,13]
    refine .ld 4 S7 0 rfl<| .ld 5 S7 0 rfl<| .ix 1 S7 (·.ah 2 rfl) rfl<| .le 0 S7 (·.ah 2 rfl) hp rfl<| .z 1 S7 rfl<| .f rfl (.bU (ax) v bu rfl s29 rfl λ v6 _ s30 _=> ?_)
    have s30d:=s30.mn
    have S8:=s30d.pt [0,1,2,3,4,5,6,7,8,9,10,11,12,13]
    refine ⟨S8,?_⟩
    refine .f rfl (.aw 14 bu s30d rfl rfl rfl underlying28 (s30d.ah 15 rfl) (by simp only [KM];omega) (by simp only [KM];omega) λ v7 _ s31 _=> ?_)
    have s31d:=(s31.sn).pt [0,1,2,3,4,5,6,7,8,9,10,11,12,13,14]
    obtain ⟨sv1,hsv1,hsv1n⟩:=(s31d.ah 14 rfl).sv
    subst hsv1
    have S9:=s31d.pt [0,1,2,3,4,5,6,7,8,9,10,11,12,13]
    refine ⟨S9,?_⟩
    refine .ix 0 S9 (·.ah 2 rfl) rfl<| .bar rfl rfl rfl (OpE.cH (a:=(sv1,p.2++[v])) 2 lH s31d rfl rfl rfl rfl (by omega) λ _ s32 _=> ?_)
    have s32d:=s32.sn
    have S10:=s32d.pt [0,1,3,4,5,6,7,8,9,10,11,12,13]
    refine ⟨S10,?_⟩
    refine .fin ?_
    have s33:=s32d.Hq 14 3 rfl rfl rfl rfl (by omega) rfl
    refine .trim [0,2,3,4,5,6,7,8,9,11,12,114,115] rfl<| .U rfl ?_
    exact aT (i+1,last1,kv1,blk1,S1.set i (sv1,p.2++[v])) ⟨s33,hca1,FO hS1 hp (by rw [<-hu0];exact hv) hkt,by omega⟩
   refine .ao<| .h<| .a 1 rfl (.build NR rfl ⟨rfl,trivial⟩ rfl)<| .al 0 s24 rfl λ b1 _ s34 _ _=> ?_
   have s34d:=s34.mn
   refine .sa 0 s34d 14 (vs:=[(.pointer (some ⟨dg1,0,none⟩)),(.slice none 0 0)]) rfl (λ v h=>by simp only [PR,PU,Q9] at h;rcases h with rfl|rfl;exact rfl;exact rfl) λ _ s35 _=> ?_
   have s35d:=s35.sn
   refine .nil<| .seq<| .Z rfl<| .block ?_
   have s36:=(s35d.aA 116 (B9)).mn
   have s37:=s36.pt [0,1,2,3,4,5,6,7,8,14,15]
   refine .lq [0,2,3,4,5,7,13,114,115] rfl (α:=Nat×RS×Value×Value×List (Option Nat)) (λ (nn,s1,bv1,lv1,ls)=>[(14,(.int .i64 nn))]) (λ (nn,s1,bv1,lv1,ls) w'=>Sat w0 (s37.V [(0,aq g 158 [bv1,(.bool (!s1.1)),v5,tv0,x4,x5,x6,x7,x8,iv,x10]),(9,aq b1 111 [(.pointer (some ⟨dg1,0,none⟩)),lv1]),(10,cL lv1 116 (B9) (ls))]++cs) w'/\(RB s1)/\(RdL w0 bv1 (aa .u8) s1.2)/\(At X s1 (FL l nn (a8 us).length++r))/\(ls.length<=nn)) (λ (nn,s1,bv1,lv1,ls)=>(a8 us).length-nn) (0,(true,r5),bv4,(.slice none 0 0),[]) ⟨s37,hB5,hbv4,A5,KB _⟩ ?_
   rintro ⟨nn,s1,bv1,lv1,ls⟩ w27 ⟨s38,hB1,hb1,hA1,hln⟩
   refine .seq<| .seq<| .md [0,2,3,4,5,7,13,14,114,115] rfl (λ K L' w'=>Weak ([(175,(.bool (decide ((nn<(a8 us).length)/\((!(!s1.1))=true)))))]++K) L'/\Sat w0 s38.L w') ?_ ?_
   ·refine .region<| .cm 2 s38 (AR _ _ _ _ _ _ _ _ (s38.uD 5 6 7 8 rfl rfl rfl rfl)) rfl λ _ s39=> .z 2 rfl<| .B 168 rfl (λ hg1=> ?_) λ hg1=> ?_
    ·refine .ld 4 s39 0 rfl<| .a 0 rfl (.cO rfl)<| .Z rfl ?_
     exact ⟨⟨If some (If Value.bool (by simp [hg1])),rfl,rfl,rfl,rfl,rfl,rfl,rfl,rfl,rfl,rfl,trivial⟩,s39⟩
    refine .Z rfl ?_
    exact ⟨⟨If some (If Value.bool (by simp [hg1])),rfl,rfl,rfl,rfl,rfl,rfl,rfl,rfl,rfl,rfl,trivial⟩,s39⟩
   rintro L' w29 ⟨hw3,s40⟩
   refine .weaken _ hw3<| .ae rfl (λ c3=> ?_) λ c3=> ?_
   ·refine .skip<| .seq<| .block<| .seq ?_
    have hz6:=Q7 (Al s1) hB1.len
    have hpo:OkP (eo l nn):=kY nn (by omega)
    have hpl9:=je hpo
    rw [FM c3.1,LW] at hA1
    obtain ⟨A6,B6⟩:=vE hA1 (by rw [bL];omega)
    have ho1:s1.1=true:=by simpa using c3.2
    rcases QK (aP s1).2.1 with h6|h6
    ·have E6:bF (aP s1).1=aM (mH (eo l nn)):=by show bF (strOf (jB s1.1 s1.2).1)=_;rw [(B6 h6).2,gE (nw (iA _))]
     refine .region<| .z 3 rfl ?_
     have A_6:=s40.oc [0,1,2,3,4,5,6,7,8,9,10] 1
     refine .c 0 (cc _ _ _ _ _ s1 _ _ _ _ _ _ _ _ _ A_6 hb1 hB1) rfl λ r12 _ h12=> ?_
     obtain ⟨rfl,bv6,hbv5,p12⟩:=h12
     have s41:=p12.join.od [0,1,2,3,4,5,6,7,8,9,10]
     refine .f rfl (.gn underlying9 underlying45 underlying5 s41 rfl (by omega) λ v8 _ s42=> ?_)
     have s42d:=s42.mn
     refine .c 0 (zO _ (bF ((aP s1).1)) (eo l nn) _ (s42d.o3 11 rfl) hpo E6) rfl λ r13 _ h13=> ?_
     obtain ⟨pg1,pbv1,psv1,rfl,p13⟩:=h13
     have s43:=(s42d.az p13).mn
     refine .Z rfl ?_
     obtain ⟨r6,hr6⟩:∃ r6,(aP s1).2=(true,r6):=⟨_,Sd h6 rfl⟩
     have hB6:RB (true,r6):=hr6▸hB1.tx
     have A7:At X (true,r6) (FL l (nn+1) (a8 us).length++r):=hr6▸A6
     rw [hr6] at s43 hbv5
     refine .h<| .ld 5 s43 0 rfl<| .st 7 s43 0 rfl λ _ s44 _=> ?_
     have s44d:=s44.sn
     refine .nil<| .region<| .ld 1 s44d 9 rfl<| .b 1 rfl (.bU (B9) (some pg1) Hc rfl s44d rfl λ v9 _ s45 _=> ?_)
     have s45d:=s45.mn
     refine .ap 0 s45d 10 (s45d.ah 15 rfl) rfl (h1:=by simp only [KM];omega) (h2:=by simp only [KM];omega) λ v10 _ s46 _=> ?_
     have s46d:=(s46.sn).pt [0,1,2,3,4,5,6,7,8,9,10,11,12,13,14]
     refine .st 1 s46d 9 rfl (h1:=(s46d.ah 10 rfl).ab) λ _ s47 _=> ?_
     have s47d:=s47.sn
     refine .nil<| .U rfl ?_
     have s48:=s47d.pt [0,1,2,3,4,5,6,7,8,9,10]
     exact aT ((nn+1),(true,r6),bv6,v10,ls++[some pg1]) ⟨s48,hB6,hbv5,A7,by simp only [sp,KM];omega⟩
    have E6:=vD h6
    refine .region<| .z 3 rfl ?_
    have A_7:=s40.oc [0,1,2,3,4,5,6,7,8,9,10] 1
    refine .c 0 (cc _ _ _ _ _ s1 _ _ _ _ _ _ _ _ _ A_7 hb1 hB1) rfl λ r14 _ h14=> ?_
    obtain ⟨rfl,bv7,hbv6,p14⟩:=h14
    have s49:=p14.join.od [0,1,2,3,4,5,6,7,8,9,10]
    refine .f rfl (.gn underlying9 underlying45 underlying5 s49 rfl (by omega) λ v11 _ s50=> ?_)
    have s50d:=s50.mn
    refine .cm 0 s50d (EH _ (bF ((aP s1).1)) _ (s50d.o3 11 rfl) E6) rfl λ _ s51=> .Z rfl ?_
    obtain ⟨r6,hr6⟩:∃ r6,(aP s1).2=(false,r6):=⟨_,Sd h6 rfl⟩
    have hB6:RB (false,r6):=hr6▸hB1.tx
    have A7:At X (false,r6) (FL l (nn+1) (a8 us).length++r):=hr6▸A6
    rw [hr6] at s51 hbv6
    refine .h<| .ld 5 s51 0 rfl<| .st 7 s51 0 rfl λ _ s52 _=> ?_
    have s52d:=s52.sn
    refine .nil<| .region<| .ld 1 s52d 9 rfl<| .b 1 rfl (.bU (B9) none Hc rfl s52d rfl λ v12 _ s53 _=> ?_)
    have s53d:=s53.mn
    refine .ap 0 s53d 10 (s53d.ah 12 rfl) rfl (h1:=by simp only [KM];omega) (h2:=by simp only [KM];omega) λ v13 _ s54 _=> ?_
    have s54d:=(s54.sn).pt [0,1,2,3,4,5,6,7,8,9,10,11]
    refine .st 1 s54d 9 rfl (h1:=(s54d.ah 10 rfl).ab) λ _ s55 _=> ?_
    have s55d:=s55.sn
    refine .nil<| .U rfl ?_
    have s56:=s55d.pt [0,1,2,3,4,5,6,7,8,9,10]
    exact aT ((nn+1),(false,r6),bv7,v13,ls++[none]) ⟨s56,hB6,hbv6,A7,by simp only [sp,KM];omega⟩
   refine .ao ?_
   have hshp3:=(s40.ah (E:=jX) 4 rfl).iH (by decide)
   refine .fk [0,1,2,3,5,6,7,8,9,10] [1,2,3,4,5,6,7,8,9] s40 rfl rfl 10 (pl [0,1,2,3,4,5,1006,1007] (.loose 8 (pl [9] (.bar 10 .fin)))) mixed (by kernel_rfl) ?_
   have s57:=s40.drew
   have S11:=s57.pt [0,1,2,3,5,6,7,8,9,10]
   refine .ld 4 S11 0 rfl<| .e rfl (λ _ hS=> .fH Ml rfl hS (i:=8) rfl rfl) S11<| .f rfl (.cn (jX) (⟨(Value.pointer (some ⟨dg1,0,none⟩)),lv1,rfl,(s57.ah 10 rfl).ab⟩:VV) Mj (by decide) (by decide) s57 rfl λ v14 _ s58 _=> ?_)
   have s58d:=s58.mn
   have S12:=s58d.pt [0,1,2,3,5,6,7,8,9,10]
   refine ⟨S12,?_⟩
   refine .f rfl (.aw 4 Mj s58d rfl rfl rfl underlying87 (s58d.ah 11 rfl) (by simp only [KM];omega) (by simp only [KM];omega) λ v15 _ s59 _=> ?_)
   have s59d:=(s59.sn).pt [0,1,2,3,4,5,6,7,8,9,10]
   have S13:=s59d.pt [0,1,2,3,5,6,7,8,9,10]
   refine ⟨S13,?_⟩
   refine .loose rfl rfl rfl (λ _ hS=> .nilCheck rfl) S13<| .z 1 S13 rfl<| .bar rfl rfl rfl (OpE.aK NQ s59d (i:=0) rfl rfl rfl ((s59d.ah 4 rfl).ab) rfl λ _ s60 _=> ?_)
   have s60d:=s60.sn
   have S14:=s60d.pt [1,2,3,5,6,7,8,9,10]
   refine ⟨S14,?_⟩
   refine .fin ?_
   show aL _ _ _ _ _ _
   refine cv rfl ?_
   have s61:=s60d.pt [0,1,2,3,4]
   refine ⟨rfl,s1,_,_,as_++[((aP s).1,decide ((aS (aP s).2).1=1))],_,S1,_,_,hb1,hB1,?_,λ _=>⟨?_,?_⟩,?_,s61⟩
   ·rcases QK s1.1 with q|q
    ·have h9:(a8 us).length<=nn:=RN λ q2=>c3 ⟨q2,by simpa using q⟩
     rw [Ja h9,Rc] at hA1;exact hA1
    exact hA1.off q
   ·have h8:=B3 (B4 h4).1;have h9:=B2 h8.1;rw [(B1 h9.1).2,h9.2,has,ak hat];obtain ⟨a1,a2⟩:=a;cases a2<;>rfl
   ·rw [hS1,Dt (by omega)]
   simp only [sp,KM];omega
  have E4:=vD h4
  refine .region<| .z 3 rfl ?_
  have A8:=s6.oc [0,1,2,3,4,5,6,7,8,9] 1
  refine .c 0 (cc _ _ _ _ _ (aP (aS (aP s).2).2).2 _ _ _ _ _ _ _ _ _ A8 hbv3 (RB.tx (RB.nm (RB.tx hB)))) rfl λ r16 _ h16=> ?_
  obtain ⟨rfl,bv8,hbv7,p16⟩:=h16
  have s62:=p16.join.od [0,1,2,3,4,5,6,7,8,9]
  refine .f rfl (.gn underlying9 underlying45 underlying5 s62 rfl (by omega) λ v16 _ s63=> ?_)
  have s63d:=s63.mn
  refine .cm 0 s63d (xq _ (bF ((aP (aP (aS (aP s).2).2).2).1)) _ (s63d.o3 10 rfl) E4) rfl λ _ s64=> .Z rfl<| .seq<| .seq<| .wI (λ L' w'=>Weak [(0,(.pointer (some ⟨g,0,none⟩))),(2,(.string (aP s).1)),(3,(.int .i64 ((aS (aP s).2).1:Nat))),(4,(.pointer (some ⟨dg1,0,none⟩))),(5,(.int .i64 (0:Nat))),(6,(.pointer none)),(7,(.int .i64 (9:Nat))),(75,(.bool true))] L'/\Sat w0 ([aq g 158 [bv8,(.bool (!(aP (aP (aS (aP s).2).2).2).2.1)),av,tv,x4,x5,x6,x7,x8,iv,x10],cL av 86 (cE) (as_),cL tv 28 (ck ByteArray) (S),bh 9 ax (S),cL iv 111 (jX) (ixs),Fx v1 (aa .u8) (bF ((aP (aS (aP s).2).2).1)),aq dg1 166 [dvw1,dvc1,dvo1],cL dvw1 9 (ax) (a8 us),cL dvc1 3 (aa .i64) (ar us),cL dvo1 3 (aa .i64) (ordN (a8 us)),Fx v16 (aa .u8) (bF ((aP (aP (aS (aP s).2).2).2).1))]++cs) w') ?_ ?_
  ·refine .dt [0,1,2,3,4,5,6,7,8,9,10] s64 rfl (pl [0,1,2,3,4,5,6,7,8,9,10,11,12,13,14,15,16,17,18,19,20,21,22,24,25,26,27,28,29,1023,30,31,32] .fin) λ s65 S15=> .ld 4 S15 0 rfl<| .z 1 S15 rfl<| .Gt 48 rfl (by simp [h4])<| .Z S15 rfl ?_
   exact ⟨(wk rfl),s65⟩
  rintro L' w50 ⟨hw4,s66⟩
  refine .weaken _ hw4<| .ea rfl (rfl)<| .h<| .st 4 s66 0 rfl λ _ s67 _=> ?_
  have s67d:=s67.sn
  refine .nil<| .ret ?_
  show aL _ _ _ _ _ _
  refine cv rfl ?_
  have s68:=s67d.pt [0,1,2,3,4]
  exact ⟨rfl,(false,(aP (aP (aS (aP s).2).2).2).2.2),_,_,as_,_,S,_,ixs,hbv7,⟨(RB.tx (RB.tx (RB.nm (RB.tx hB)))).lt,(RB.tx (RB.tx (RB.nm (RB.tx hB)))).len⟩,⟨λ q=>(by cases q),λ q=>(by have h9:(aP (aP (aS (aP s).2).2).2).2=(true,_):=A4.2 q;rw [h9] at h4;cases h4)⟩,λ q=>(by cases q),by omega,s68⟩
 have E3:=vD h3
 refine .region<| .z 3 rfl ?_
 have A9:=s3.oc [0,1,2,3,4] 1
 refine .c 0 (cc _ _ _ _ _ (aS (aP s).2).2 _ _ _ _ _ _ _ _ _ A9 hbv2 (RB.nm (RB.tx hB))) rfl λ r18 _ h18=> ?_
 obtain ⟨rfl,bv9,hbv8,p18⟩:=h18
 have s69:=p18.join.od [0,1,2,3,4]
 refine .f rfl (.gn underlying9 underlying45 underlying5 s69 rfl (by omega) λ v17 _ s70=> ?_)
 have s70d:=s70.mn
 refine .cm 0 s70d (EG _ (bF ((aP (aS (aP s).2).2).1)) _ (s70d.o3 5 rfl) E3) rfl λ _ s71=> .Z rfl<| .seq ?_
 have h4:=J9 h3
 have E4:=vD h4
 refine .region<| .z 3 rfl ?_
 have A10:=s71.oc [0,1,2,3,4,5] 1
 refine .c 0 (cc _ _ _ _ _ (aP (aS (aP s).2).2).2 _ _ _ _ _ _ _ _ _ A10 hbv8 (RB.tx (RB.nm (RB.tx hB)))) rfl λ r20 _ h20=> ?_
 obtain ⟨rfl,bv10,hbv9,p20⟩:=h20
 have s72:=p20.join.od [0,1,2,3,4,5]
 refine .f rfl (.gn underlying9 underlying45 underlying5 s72 rfl (by omega) λ v18 _ s73=> ?_)
 have s73d:=s73.mn
 refine .cm 0 s73d (xq _ (bF ((aP (aP (aS (aP s).2).2).2).1)) _ (s73d.o3 6 rfl) E4) rfl λ _ s74=> .Z rfl<| .seq<| .seq<| .wI (λ L' w'=>Weak [(0,(.pointer (some ⟨g,0,none⟩))),(2,(.string (aP s).1)),(3,(.int .i64 ((aS (aP s).2).1:Nat))),(4,(.pointer none)),(5,(.int .i64 (9:Nat))),(6,(.pointer none)),(7,(.int .i64 (9:Nat))),(75,(.bool true))] L'/\Sat w0 ([aq g 158 [bv10,(.bool (!(aP (aP (aS (aP s).2).2).2).2.1)),av,tv,x4,x5,x6,x7,x8,iv,x10],cL av 86 (cE) (as_),cL tv 28 (ck ByteArray) (S),bh 9 ax (S),cL iv 111 (jX) (ixs),Fx v17 (aa .u8) (bF ((aP (aS (aP s).2).2).1)),Fx v18 (aa .u8) (bF ((aP (aP (aS (aP s).2).2).2).1))]++cs) w') ?_ ?_
 ·refine .dt [0,1,2,3,4,5,6] s74 rfl (pl [0,1,2,3,4,5,6,7,8,9,10,11,12,13,14,15,16,17,18,19,20,21,22,24,25,26,27,28,29,1023,30,31,32] .fin) λ s75 S16=> .ld 4 S16 0 rfl<| .z 1 S16 rfl<| .Gt 48 rfl (by simp [h4])<| .Z S16 rfl ?_
  exact ⟨(wk rfl),s75⟩
 rintro L' w58 ⟨hw5,s76⟩
 refine .weaken _ hw5<| .ea rfl (rfl)<| .h<| .st 4 s76 0 rfl λ _ s77 _=> ?_
 have s77d:=s77.sn
 refine .nil<| .ret ?_
 show aL _ _ _ _ _ _
 refine cv rfl ?_
 have s78:=s77d.pt [0,1,2,3,4]
 exact ⟨rfl,(false,(aP (aP (aS (aP s).2).2).2).2.2),_,_,as_,_,S,_,ixs,hbv9,⟨(RB.tx (RB.tx (RB.nm (RB.tx hB)))).lt,(RB.tx (RB.tx (RB.nm (RB.tx hB)))).len⟩,⟨λ q=>(by cases q),λ q=>(by have h9:(aP (aP (aS (aP s).2).2).2).2=(true,_):=A4.2 q;rw [h9] at h4;cases h4)⟩,λ q=>(by cases q),by omega,s78⟩
def EI (c:Co) (k:Nat):List Nat:=(List.range' k (c.at_.length-k)).flatMap λ i=>jJ lexB bW (c.at_.getD i (ByteArray.empty,false)) (eK c i)
theorem EJ {c:Co} {k:Nat} {a:ByteArray×Bool} (h:c.at_[k]? =some a):EI c k=jJ lexB bW a (eK c k)++EI c (k+1):=by
 have hk:=bQ h
 unfold EI
 rw [show c.at_.length-k=(c.at_.length-(k+1))+1 by omega,range'_succ,Rz,KW,h,Rb]
theorem ID {c:Co} {k:Nat} (h:c.at_.length<=k):EI c k=[]:=by unfold EI;rw [show c.at_.length-k=0 by omega]<;>rfl
theorem EK (c:Co):eM lexB bW c.v.at_ c.v.tk c.at_.length=EI c 0:=by
 unfold EI eM
 rw [range_eq_range',Sz]
 congr 1
 funext i
 rw [An]<;>rfl
set_option maxHeartbeats 1000000 in
theorem zM (w0 w:World) (cs:List Chunk) (g:Nat) (bv:Value) (s:RS) (x4 x5 x6 x7 x8 x10 av tv iv:Value) (X:Bool) (c:Co) (n:Nat) (r:List Nat) (hs:Sat w0 ([aq g 158 [bv,.bool (!s.1),av,tv,x4,x5,x6,x7,x8,iv,x10],cL av 86 cE ([]),cL tv 28 (ck ByteArray) ([]),bh 9 ax ([]),cL iv 111 jX ([])]++cs) w) (hb:RdL w0 bv (aa .u8) s.2) (hB:RB s) (ho:OkC n c) (hn:n<=3) (h0:K0 c) (hAt:At X s (uv c.at_.length++(EI c 0++r))):
  CallsV prog 97 [(.pointer (some ⟨g,0,none⟩)),(.func (.func 98) #[(.pointer (some ⟨g,0,none⟩))] #[])] w λ r' w'=>r'= .tuple #[]/\∃ (s':RS) (bv' av':Value) (as':List (ByteArray×Bool)) (tv':Value) (S':List (SV×List ByteArray)) (iv':Value) (ixs':List VV),RdL w0 bv' (aa .u8) s'.2/\RB s'/\At X s' r/\(s'.1=true->as'=c.at_/\S'.map Prod.snd=c.tk.map (·.ns))/\Sat w0 ([aq g 158 [bv',.bool (!s'.1),av',tv',x4,x5,x6,x7,x8,iv',x10],cL av' 86 cE (as'),cL tv' 28 (ck ByteArray) (S'),bh 9 ax (S'),cL iv' 111 jX (ixs')]++cs) w':=by
 have hu8:=ho.at_.2
 obtain ⟨A1,B1⟩:=ig hAt (by omega)
 refine ai func97 rfl rfl ?_
 refine .h<| .z 1 rfl ?_
 have A_1:=hs.oc [0,1,2,3,4] 1
 refine .c 0 (bO _ _ _ _ _ s _ _ _ _ _ _ _ _ _ A_1 hb hB) rfl λ r1 _ h1=> ?_
 obtain ⟨rfl,bv_1,hbv1,p1⟩:=h1
 have s_1:=p1.join.od [0,1,2,3,4]
 refine .Z rfl<| .block<| .lq [0,1] rfl (α:=Nat×Nat×RS×Value×Value×List (ByteArray×Bool)×Value×List (SV×List ByteArray)×Value×List VV) (λ (m,k,s1,bv1,av1,as1,tv1,S1,iv1,ix1)=>[(4,(.int .i64 m))]) (λ (m,k,s1,bv1,av1,as1,tv1,S1,iv1,ix1) w'=>Sat w0 ([aq g 158 [bv1,(.bool (!s1.1)),av1,tv1,x4,x5,x6,x7,x8,iv1,x10],cL av1 86 (cE) (as1),cL tv1 28 (ck ByteArray) (S1),bh 9 ax (S1),cL iv1 111 (jX) (ix1)]++cs) w'/\(RB s1)/\(RdL w0 bv1 (aa .u8) s1.2)/\(At X s1 (EI c k++r))/\(s1.1=true->k+m=c.at_.length/\as1=c.at_.take k/\(0<k->S1.map Prod.snd=c.tk.map λ t=>t.ns.take k))/\(ix1.length<=k)/\(m<=1073741824)) (λ (m,k,s1,bv1,av1,as1,tv1,S1,iv1,ix1)=>m) ((aS s).1,0,(aS s).2,bv_1,av,[],tv,[],iv,[]) ⟨s_1,hB.nm,hbv1,A1,λ q=>⟨by rw [(B1 q).2];exact Qa _,rfl,λ q2=>absurd q2 (by omega)⟩,KB _,ez s⟩ ?_
 rintro ⟨m,k,s1,bv1,av1,as1,tv1,S1,iv1,ix1⟩ w2 ⟨s2,hB1,hb1,hA1,hI,hix,hm9⟩
 refine .seq<| .seq<| .bN 15 ((0<m)/\((!(!s1.1))=true)) ?_ ?_
 ·refine .z 3 rfl<| .B 9 rfl (λ g1=> ?_) λ g1=> ?_
  ·refine .ld 3 s2 0 rfl<| .a 0 rfl (.cO rfl)<| .M rfl (by simp [g1])
  refine .M rfl (by simp [g1])
 refine .ae rfl (λ c1=> ?_) λ c1=> ?_
 ·refine .skip<| .seq<| .block ?_
  have ho1:s1.1=true:=by simpa using c1.2
  obtain ⟨a,hat⟩:∃ a,c.at_[k]? =some a:=⟨_,py (by have:=(hI ho1).1;omega)⟩
  rw [EJ hat,LW] at hA1
  refine .region<| .z 1 rfl ?_
  have A2:=s2.oc [0,1,2,3,4] 5
  refine .f rfl (.uH Oa rfl rfl ((IC _ _ _ _ _ s1 _ _ _ _ _ _ _ _ _ X c n k a (EI c (k+1)++r) as1 S1 ix1 A2 hb1 hB1 ho hn h0 hat (hI ho1).2.1 (hI ho1).2.2 hix hA1).mono λ r2 _ h2=> ?_))
  obtain ⟨rfl,s9_1,bv2,av_1,as9_1,tv_1,S9_1,iv_1,ix9_1,hbv2,hB9_1,hA9_1,hI9_1,hix9_1,p2⟩:=h2
  have s3:=p2.join.od [0,1,2,3,4]
  refine .nil<| .U rfl ?_
  exact aT ((m-1),(k+1),s9_1,bv2,av_1,as9_1,tv_1,S9_1,iv_1,ix9_1) ⟨s3,hB9_1,hbv2,hA9_1,λ q=>⟨by have:=(hI ho1).1;omega,(hI9_1 q).1,λ _=>(hI9_1 q).2⟩,hix9_1,by omega⟩
 refine .ao ?_
 show aL _ _ _ _ _ _
 refine cv rfl ?_
 refine ⟨rfl,s1,_,_,as1,_,S1,_,_,hb1,hB1,?_,λ q=> ?_,s2⟩
 ·rcases QK s1.1 with q|q
  ·have h8:=(hI q).1;have h9:m=0:=Nat.eq_zero_of_not_pos λ h=>c1 ⟨h,by simpa using q⟩
   rw [ID (by omega),Rc] at hA1;exact hA1
  exact hA1.off q
 obtain ⟨h8,h7,h6⟩:=hI q;have h9:m=0:=Nat.eq_zero_of_not_pos λ h=>c1 ⟨h,by simpa using q⟩
 refine ⟨by rw [h7,PV (by omega)],?_⟩
 rw [h6 (by omega)]
 exact Rs λ t ht=>PV (by rw [(ho.tk t ht).1];omega)
end Go.Proofs.YthffkcnbdehceaaGreat
