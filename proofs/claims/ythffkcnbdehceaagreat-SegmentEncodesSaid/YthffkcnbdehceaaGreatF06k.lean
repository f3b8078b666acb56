/-The walks of the functions of F06k,printed by our own program (kwgen.py) out of our descriptions (base.py). -/
import Derived.Test.YthffkcnbdehceaaGreatF06q
import Derived.Test.YthffkcnbdehceaaGreatF41e
import Derived.Test.YthffkcnbdehceaaGreatM06k
open List
open Go.Proofs.Tryz
set_option linter.unusedVariables false
set_option linter.unusedSimpArgs false
set_option linter.unusedSectionVars false
namespace Go.Proofs.YthffkcnbdehceaaGreat
open Go.RowKit Go.Kw
set_option maxRecDepth 100000
theorem zh (c:Co) (nm:ByteArray) (w:World) (hr:RdC w c) (hl:c.tx.length<=64) (hno:∀ y∈c.tx,y.nm≠nm):
  CallsV prog 68 [(.agg #[c.va,c.vt,c.vx,c.vr,c.vn,c.vh,c.vl]),(.string nm)] w λ r w'=>r= .int .i64 (-1)/\Sat w [] w':=by
 have hs0:=Sat.start w
 refine ai func68 rfl rfl ?_
 refine .h<| .bx 0 hs0 rfl λ b1 _ s1 _ _=> .Z rfl<| .seq<| .h<| .ld 1 s1 0 rfl<| .ln 0 (hr.x.ext s1.ext) rfl<| .Z rfl<| .block<| .lq [0,1,2,8,9] rfl (α:=Nat) (λ k=>[(10,(.int .i64 k))]) (λ k w'=>Sat w s1.L w') (λ k=>c.tx.length-k) 0 s1 ?_
 rintro k w2 s2
 refine .Z rfl<| .seq<| .ae rfl (λ c1=> ?_) λ c1=> ?_
 ·refine .skip<| .seq<| .block<| .seq ?_
  obtain ⟨x,hx⟩:∃ x,(c.tx)[k]? =some x:=⟨_,py c1⟩
  refine .region<| .ix 1 (hr.x.ext s2.ext) rfl<| .lg 0 (hr.x.ext s2.ext) hx rfl<| .al 0 s2 rfl λ b2 _ s3 _ _=> .sa 1 s3 1 rfl ((aG).one _) λ _ s4 _=> ?_
  have s4:=s4.nn
  refine .nil<| .h<| .ld 1 s4 1 rfl<| .a 1 rfl (.eF rfl rfl)<| .nil<| .aj rfl (IN (hno x (a7 hx)))<| .skip<| .U rfl ?_
  exact aT (k+1) (s4.pk [0])
 refine .ao<| .Z rfl<| .aC rfl rfl ?_
 exact ⟨rfl,s2.pk []⟩
theorem pa (c:Co) (w:World) (hr:RdC w c) (hl:c.tk.length<=5000):
  CallsV prog 69 [(.agg #[c.va,c.vt,c.vx,c.vr,c.vn,c.vh,c.vl])] w λ r w'=>∃ vh vl F,r= .tuple #[vh,vl]/\Sat w [jH F (λ w1=>RdC w1 c->RdL w1 vh (Kw.encI .i64) (jh c)/\RdL w1 vl ax (kf c))] w':=by
 have hs0:=Sat.start w
 refine ai func69 rfl rfl ?_
 refine .h<| .bx 0 hs0 rfl λ b1 _ s1 _ _=> .Z rfl<| .seq<| .h<| .ld 1 s1 0 rfl<| .ln 0 (hr.h.ext s1.ext) rfl<| .Z rfl<| .ae rfl (λ c1=> ?_) λ c1=> ?_
 ·refine .seq<| .dk [0] s1 rfl (pl [0,1,2,3,4,5] .fin) λ s2 S1=> .ld 1 S1 0 rfl<| .ld 1 S1 0 rfl<| .Z S1 rfl<| .cj rfl rfl rfl ?_
  exact ⟨_,_,[],rfl,(s2.pk []).sF λ w1 q=>⟨by unfold jh;rw [PI c1];exact q.h,by unfold kf;rw [PI c1];exact q.l⟩⟩
 refine .skip<| .h<| .ld 1 s1 0 rfl<| .ln 0 (hr.t.ext s1.ext) rfl<| .f rfl (.cP (Kw.encI .i64) ((0:Int)) aQ rfl s1 rfl rfl (by omega) (by omega) (by omega) λ v1 _ s4 _=> ?_)
 refine .Z rfl<| .seq<| .h<| .ln 1 (s4.ah 1 rfl) rfl<| .Z rfl<| .block ?_
 have hrl:=R6 (n:=c.tk.length) (a:=(0:Int))
 refine .lq [0,1,2,3,19] rfl (α:=Nat×Value×List Int) (λ (k,lv,hl9)=>[(4,lv),(20,(.int .i64 k))]) (λ (k,lv,hl9) w'=>Sat w (s4.U [(1,cL lv 3 (Kw.encI .i64) (hl9))]) w'/\(hl9.length=c.tk.length)/\(∀ (j:Nat),j<k->hl9[j]? =some (-1))) (λ (k,lv,hl9)=>c.tk.length-k) (0,v1,List.replicate (c.tk.length) (0:Int)) ⟨s4,by simp,λ j h=>absurd h (by omega)⟩ ?_
 rintro ⟨k,lv,hl9⟩ w3 ⟨s5,hle,hset⟩
 refine .Z rfl<| .seq<| .ae rfl (λ c2=> ?_) λ c2=> ?_
 ·refine .skip<| .seq<| .block<| .Z rfl<| .region<| .ix 2 (s5.ah 1 rfl) rfl<| .f rfl (.cH (a:= -1) 1 cQ s5 rfl rfl rfl rfl (by omega) λ _ s6 _=> ?_)
  have s6:=s6.nn
  refine .nil<| .U rfl ?_
  exact aT (k+1,lv,hl9.set k (-1)) ⟨s6,by rw [PJ];exact hle,λ j h=>by rw [R7];split;rw [PI (by omega)];exact hset j (by omega)⟩
 refine .ao<| .seq ?_
 have hv1:=LV c.tk.length k hl9 hle hset (by omega)
 subst hv1
 refine .dk [0,1] s5 rfl (pl [0,1,2,3,5,1004,6] .fin) λ s7 S2=> .ld 2 S2 0 rfl<| .ln 0 S2 (hr.t.ext ·.ext) rfl<| .z 1 S2 rfl<| .f rfl (.cP (ax) (ByteArray.empty) bu rfl s7 rfl rfl (by omega) (by omega) (by omega) λ v2 _ s8 _=> ?_)
 have s8:=s8.nn
 have S3:=s8.pk [0,1]
 refine ⟨S3,?_⟩
 refine .Z S3 rfl<| .cj rfl rfl rfl ?_
 obtain ⟨F,hF⟩:=(s8.pick [1,2] rfl).za 2 (Q:=λ w1=>RdC w1 c->RdL w1 lv (Kw.encI .i64) (jh c)/\RdL w1 v2 ax (kf c)) (λ w1 hA q=>⟨by unfold jh;rw [M2 c1];exact hA.ah 0 rfl,by unfold kf;rw [M2 c1];exact hA.ah 1 rfl⟩)
 exact ⟨_,_,F,rfl,hF⟩
set_option maxHeartbeats 1000000 in
theorem Ck (a b:Co) (n m:Nat) (w:World) (ha:RdC w a) (hb:RdC w b) (hoa:OkC n a) (hob:OkC m b) (hn:n<=3) (hm:m<=3) (hat:a.at_=b.at_) (hdj:∀ x∈b.tx,∀ y∈a.tx,y.nm≠x.nm):
  CallsV prog 26 [(.agg #[a.va,a.vt,a.vx,a.vr,a.vn,a.vh,a.vl]),(.agg #[b.va,b.vt,b.vx,b.vr,b.vn,b.vh,b.vl])] w λ r w'=>∃ (x:Co) (F:List Nat),r= .tuple #[x.val,.int .i64 ((0:Nat):Int)]/\IsCat a b x/\Sat w [jH F (λ w1=>RdC w1 a->RdC w1 b->RdC w1 x)] w':=by
 have hatk:=hoa.ntk
 have hatx:=hoa.ntx
 have harg:=hoa.nrg
 have hand:=hoa.nnd
 have haat:=hoa.at_.2
 have hbtk:=hob.ntk
 have hbtx:=hob.ntx
 have hbrg:=hob.nrg
 have hbnd:=hob.nnd
 have hbat:=hob.at_.2
 have hahl:=(hoa.sm (by omega)).hd
 have hbhl:=(hob.sm (by omega)).hd
 have hs0:=Sat.start w
 refine ai func26 rfl rfl ?_
 refine .h<| .bx 0 hs0 rfl λ b1 _ s1 _ _=> .bx 0 s1 rfl λ b2 _ s2 _ _=> .al 0 s2 rfl λ b3 _ s3 _ _=> ?_
 have s3:=s3.nn
 refine .Z rfl<| .seq<| .h<| .lo 0 s3 0 rfl<| .cp 0 s3 (qJ a _ _ (ha.ext s3.ext) hoa hn) rfl λ _ s4=> .lo 2 s4 1 rfl<| .cp 0 s4 (qJ b _ _ (hb.ext s4.ext) hob hm) rfl λ _ s5=> .Z rfl<| .aj rfl (rfl)<| .skip<| .seq<| .h<| .ld 1 s5 0 rfl<| .ld 1 s5 1 rfl<| .cq 0 s5 (th _ _ (a.at_) (b.at_) _ (ha.a.ext s5.ext) (hb.a.ext s5.ext) (by omega)) rfl λ _ s6=> .e rfl (.mF rfl)<| .nil<| .aj rfl (IN (λ h=>h hat))<| .skip<| .seq<| .h<| .ld 1 s6 1 rfl<| .ln 0 (hb.x.ext s6.ext) rfl<| .Z rfl<| .block<| .lq [0,1,2,3,4,37,38] rfl (α:=Nat) (λ k=>[(39,(.int .i64 k))]) (λ k w'=>Sat w s6.L w') (λ k=>b.tx.length-k) 0 s6 ?_
 rintro k w7 s7
 refine .Z rfl<| .seq<| .ae rfl (λ c1=> ?_) λ c1=> ?_
 ·refine .skip<| .seq<| .block<| .seq ?_
  obtain ⟨x,hx⟩:∃ x,(b.tx)[k]? =some x:=⟨_,py c1⟩
  refine .region<| .ix 0 (hb.x.ext s7.ext) rfl<| .lg 0 (hb.x.ext s7.ext) hx rfl<| .al 0 s7 rfl λ b4 _ s8 _ _=> .sa 0 s8 3 rfl ((aG).one _) λ _ s9 _=> .nil<| .h<| .lo 0 s9 0 rfl<| .ld 1 s9 3 rfl<| .cq 0 s9 (zh a (x.nm) _ (ha.ext s9.ext) (by omega) (hdj x (a7 hx))) rfl λ _ s10=> .e rfl (.geq rfl rfl)<| .nil<| .aj rfl (IN (by omega))<| .skip<| .U rfl ?_
  exact aT (k+1) (s10.pk [0,1,2])
 refine .ao<| .seq<| .dk [0,1,2] s7 rfl (pl [0,1,2,3,4,5,6,7] .fin) λ s12 S1=> .ld 1 S1 0 rfl<| .ln 0 S1 (ha.t.ext ·.ext) rfl<| .ld 1 S1 0 rfl<| .ln 0 S1 (ha.n.ext ·.ext) rfl<| .Z S1 rfl<| .seq<| .h<| .ld 2 s12 1 rfl<| .ln 0 (hb.t.ext s12.ext) rfl<| .z 3 rfl<| .Gf 62 rfl (IN (by omega))<| .ld 1 s12 0 rfl<| .ln 0 (ha.x.ext s12.ext) rfl<| .ld 1 s12 1 rfl<| .ln 0 (hb.x.ext s12.ext) rfl<| .z 4 rfl<| .Gf 72 rfl (IN (by omega))<| .ld 1 s12 0 rfl<| .ln 0 (ha.r.ext s12.ext) rfl<| .ld 1 s12 1 rfl<| .ln 0 (hb.r.ext s12.ext) rfl<| .z 4 rfl<| .Gf 82 rfl (IN (by omega))<| .ld 2 s12 1 rfl<| .ln 0 (hb.n.ext s12.ext) rfl<| .Z rfl<| .aj rfl (IN (by omega))<| .skip<| .seq<| .trim [0,1,2,3,4,8,9,37,38,39] rfl<| .region<| .ld 1 s12 0 rfl ?_
 have s13:=s12.aA 86 (cE)
 refine .ap 0 s13 3 (ha.a.ext s13.ext) rfl (h1:=by first|omega|(simp;omega)) (h2:=by first|omega|(simp;omega)) λ v1 _ s14 _=> .e rfl (.build DV rfl ⟨(s14.ah 3 rfl).ab,trivial⟩ rfl)<| .al 0 s14 rfl λ b5 _ s15 _ _=> .sa 0 s15 4 (vs:=[v1,(.slice none 0 0),(.slice none 0 0),(.slice none 0 0),(.slice none 0 0),(.slice none 0 0),(.slice none 0 0)]) rfl (λ v h=>by simp only [PR,PU,Q9] at h;rcases h with rfl|rfl|rfl|rfl|rfl|rfl|rfl;exact (s15.ah 3 rfl).ab;exact rfl;exact rfl;exact rfl;exact rfl;exact rfl;exact rfl) λ _ s16 _=> .nil<| .seq<| .dk [0,1,2,3] s16 rfl (pl [0,1,3,4,1002,1005,6,1007] .fin) λ s17 S2=> .ld 1 S2 0 rfl<| .ld 1 S2 1 rfl ?_
 have s18:=s17.aA 28 (iS)
 refine .f rfl (.aw 5 AJ s18 rfl rfl rfl underlying24 (ha.t.ext s18.ext) (by first|omega|(simp;omega)) (by first|omega|(simp;omega)) λ v2 _ s19 _=> ?_)
 have S3:=s19.pk [0,1,2,3]
 refine ⟨S3,?_⟩
 refine .f rfl (.aw 5 AJ s19 rfl rfl rfl underlying24 (hb.t.ext s19.ext) (by first|omega|(simp;omega)) (by first|omega|(simp;omega)) λ v3 _ s20 _=> ?_)
 have s20d:Sat w [_,_,_,_,_,cL v3 28 (iS) (a.tk++b.tk)] _:=s20
 have S4:=s20d.pk [0,1,2,3]
 refine ⟨S4,?_⟩
 refine .z 1 S4 rfl<| .f rfl (.aK KQ s20d (i:=4) rfl rfl rfl ((s20d.ah 5 rfl).ab) rfl λ _ s21 _=> ?_)
 have s21:=s21.nn
 have S5:=s21.pk [0,1,2,3]
 refine ⟨S5,?_⟩
 refine .fin<| .seq<| .dk [0,1,2,3,5] s21 rfl (pl [0,1,3,4,1002,1005,6,1007] .fin) λ s22 S6=> .ld 1 S6 0 rfl<| .ld 1 S6 1 rfl ?_
 have s23:=s22.aA 71 (aG)
 refine .f rfl (.aw 6 tf s23 rfl rfl rfl underlying25 (ha.x.ext s23.ext) (by first|omega|(simp;omega)) (by first|omega|(simp;omega)) λ v_4 _ s24 _=> ?_)
 have S7:=s24.pk [0,1,2,3,5]
 refine ⟨S7,?_⟩
 refine .f rfl (.aw 6 tf s24 rfl rfl rfl underlying25 (hb.x.ext s24.ext) (by first|omega|(simp;omega)) (by first|omega|(simp;omega)) λ v5 _ s25 _=> ?_)
 have S8:=s25.pk [0,1,2,3,5]
 refine ⟨S8,?_⟩
 refine .z 1 S8 rfl<| .f rfl (.aK KR s25 (i:=4) rfl rfl rfl ((s25.ah 6 rfl).ab) rfl λ _ s26 _=> ?_)
 have S9:=s26.pk [0,1,2,3,5]
 refine ⟨S9,?_⟩
 refine .fin<| .seq<| .h<| .ld 1 s26 0 rfl<| .ln 0 (ha.x.ext s26.ext) rfl<| .Z rfl<| .block<| .lq [0,1,2,3,4,8,9,10,37,38,39] rfl (α:=Nat×List Iv) (λ (jT,T)=>[(11,(.int .i64 ((a.tx.length+jT):Nat)))]) (λ (jT,T) w'=>Sat w (s26.U [(6,cL v5 71 (aG) (T))]) w'/\(T=a.tx++((b.tx.take jT).map (l0 ((a.tk.length:Nat):Int))++b.tx.drop jT))/\(jT<=b.tx.length)) (λ (jT,T)=>b.tx.length-jT) (0,a.tx++b.tx) ⟨s26,by simp,KD _⟩ ?_
 rintro ⟨jT,T⟩ w20 ⟨s27,hT,hjT⟩
 refine .seq<| .h<| .ld 2 s27 4 rfl<| .ln 0 (s27.ah 6 rfl) rfl<| .Z rfl<| .ae rfl (λ c2=> ?_) λ c2=> ?_
 ·refine .skip<| .seq<| .block<| .seq ?_
  have hTl:T.length=a.tx.length+b.tx.length:=by rw [hT];exact lb
  obtain ⟨x,hx⟩:∃ x,b.tx[jT]? =some x:=⟨_,py (by omega)⟩
  have hTx:T[a.tx.length+jT]? =some x:=by rw [hT,vW];exact hx
  have hT1:(T.set (a.tx.length+jT) (uh ((a.tk.length:Nat):Int) x))[(a.tx.length+jT)]? =some (uh ((a.tk.length:Nat):Int) x):=Qo (by omega)
  have hT2:((T.set (a.tx.length+jT) (uh ((a.tk.length:Nat):Int) x)).set (a.tx.length+jT) (KH ((a.tk.length:Nat):Int) (uh ((a.tk.length:Nat):Int) x)))[(a.tx.length+jT)]? =some (KH ((a.tk.length:Nat):Int) (uh ((a.tk.length:Nat):Int) x)):=Qo (by rw [PJ];omega)
  have hf1:(uh ((a.tk.length:Nat):Int) x).e=x.e:=rfl
  have hxo:=(hob.tx.nm x (a7 hx)).2.2
  refine .region<| .ld 1 s27 4 rfl<| .ix 1 (s27.ah 6 rfl) rfl (hj:=by first|omega|(simp only [PJ];omega))<| .fl 0 (s27.ah 6 rfl) rfl (hj:=by first|omega|(simp only [PJ];omega))<| .lf 0 (s27.ah 6 rfl) hTx rfl<| .a 1 rfl (.add rfl rfl (by unfold aY;omega))<| .ix 0 (s27.ah 6 rfl) rfl (hj:=by first|omega|(simp only [PJ];omega))<| .fl 0 (s27.ah 6 rfl) rfl (hj:=by first|omega|(simp only [PJ];omega))<| .f rfl (.j5 (E:=aG) 6 (uh ((a.tk.length:Nat):Int) x) cQ s27 rfl rfl rfl rfl hTx rfl (by decide) λ _ s28 _=> ?_)
  refine .nil<| .region<| .ld 1 s28 4 rfl<| .ix 1 (s28.ah 6 rfl) rfl (hj:=by first|omega|(simp only [PJ];omega))<| .fl 0 (s28.ah 6 rfl) rfl (hj:=by first|omega|(simp only [PJ];omega))<| .lf 0 (s28.ah 6 rfl) hT1 rfl<| .a 1 rfl (.add rfl rfl (by unfold aY;omega))<| .ix 0 (s28.ah 6 rfl) rfl (hj:=by first|omega|(simp only [PJ];omega))<| .fl 0 (s28.ah 6 rfl) rfl (hj:=by first|omega|(simp only [PJ];omega))<| .f rfl (.j5 (E:=aG) 6 (KH ((a.tk.length:Nat):Int) (uh ((a.tk.length:Nat):Int) x)) cQ s28 rfl rfl rfl rfl hT1 rfl (by decide) λ _ s29 _=> ?_)
  have s29:=s29.nn
  refine .nil<| .U rfl ?_
  exact aT (jT+1,(T.set (a.tx.length+jT) (uh ((a.tk.length:Nat):Int) x)).set (a.tx.length+jT) (KH ((a.tk.length:Nat):Int) (uh ((a.tk.length:Nat):Int) x))) ⟨s29,by rw [SY,hT];exact ql (f:=l0 ((a.tk.length:Nat):Int)) hx,by omega⟩
 refine .ao<| .seq ?_
 have hET:T=a.tx++b.tx.map (l0 ((a.tk.length:Nat):Int)):=by rw [hT];exact vX (by have h9:T.length=a.tx.length+b.tx.length:=(by rw [hT];exact lb);omega)
 refine .dk [0,1,2,3,5,6] s27 rfl (pl [0,1,3,4,1002,1005,6,1007] .fin) λ s30 S10=> .ld 1 S10 0 rfl<| .ld 1 S10 1 rfl ?_
 have s31:=s30.aA 75 (aG)
 refine .f rfl (.aw 7 oU s31 rfl rfl rfl underlying26 (ha.r.ext s31.ext) (by first|omega|(simp;omega)) (by first|omega|(simp;omega)) λ v6 _ s32 _=> ?_)
 have s32d:Sat w [_,_,_,_,aq b5 30 [v1,v3,v5,(.slice none 0 0),(.slice none 0 0),(.slice none 0 0),(.slice none 0 0)],_,cL v5 71 (aG) (T),cL v6 75 (aG) (a.rg)] _:=s32
 have S11:=s32d.pk [0,1,2,3,5,6]
 refine ⟨S11,?_⟩
 refine .f rfl (.aw 7 oU s32d rfl rfl rfl underlying26 (hb.r.ext s32d.ext) (by first|omega|(simp;omega)) (by first|omega|(simp;omega)) λ v7 _ s33 _=> ?_)
 have S12:=s33.pk [0,1,2,3,5,6]
 refine ⟨S12,?_⟩
 refine .z 1 S12 rfl<| .f rfl (.aK KS s33 (i:=4) rfl rfl rfl ((s33.ah 7 rfl).ab) rfl λ _ s34 _=> ?_)
 have S13:=s34.pk [0,1,2,3,5,6]
 refine ⟨S13,?_⟩
 refine .fin<| .seq<| .h<| .ld 1 s34 0 rfl<| .ln 0 (ha.r.ext s34.ext) rfl<| .Z rfl<| .block<| .lq [0,1,2,3,4,8,9,10,11,37,38,39] rfl (α:=Nat×List Iv) (λ (jR,R)=>[(12,(.int .i64 ((a.rg.length+jR):Nat)))]) (λ (jR,R) w'=>Sat w (s34.U [(7,cL v7 75 (aG) (R))]) w'/\(R=a.rg++((b.rg.take jR).map (l0 ((a.tk.length:Nat):Int))++b.rg.drop jR))/\(jR<=b.rg.length)) (λ (jR,R)=>b.rg.length-jR) (0,a.rg++b.rg) ⟨s34,by simp,KD _⟩ ?_
 rintro ⟨jR,R⟩ w26 ⟨s35,hR,hjR⟩
 refine .seq<| .h<| .ld 2 s35 4 rfl<| .ln 0 (s35.ah 7 rfl) rfl<| .Z rfl<| .ae rfl (λ c3=> ?_) λ c3=> ?_
 ·refine .skip<| .seq<| .block<| .seq ?_
  have hTl:R.length=a.rg.length+b.rg.length:=by rw [hR];exact lb
  obtain ⟨x,hx⟩:∃ x,b.rg[jR]? =some x:=⟨_,py (by omega)⟩
  have hTx:R[a.rg.length+jR]? =some x:=by rw [hR,vW];exact hx
  have hT1:(R.set (a.rg.length+jR) (uh ((a.tk.length:Nat):Int) x))[(a.rg.length+jR)]? =some (uh ((a.tk.length:Nat):Int) x):=Qo (by omega)
  have hT2:((R.set (a.rg.length+jR) (uh ((a.tk.length:Nat):Int) x)).set (a.rg.length+jR) (KH ((a.tk.length:Nat):Int) (uh ((a.tk.length:Nat):Int) x)))[(a.rg.length+jR)]? =some (KH ((a.tk.length:Nat):Int) (uh ((a.tk.length:Nat):Int) x)):=Qo (by rw [PJ];omega)
  have hf1:(uh ((a.tk.length:Nat):Int) x).e=x.e:=rfl
  have hxo:=(hob.rg.el x (a7 hx)).2.1.bd hob.tx
  refine .region<| .ld 1 s35 4 rfl<| .ix 1 (s35.ah 7 rfl) rfl (hj:=by first|omega|(simp only [PJ];omega))<| .fl 0 (s35.ah 7 rfl) rfl (hj:=by first|omega|(simp only [PJ];omega))<| .lf 0 (s35.ah 7 rfl) hTx rfl<| .a 1 rfl (.add rfl rfl (by unfold aY;omega))<| .ix 0 (s35.ah 7 rfl) rfl (hj:=by first|omega|(simp only [PJ];omega))<| .fl 0 (s35.ah 7 rfl) rfl (hj:=by first|omega|(simp only [PJ];omega))<| .f rfl (.j5 (E:=aG) 7 (uh ((a.tk.length:Nat):Int) x) cQ s35 rfl rfl rfl rfl hTx rfl (by decide) λ _ s36 _=> ?_)
  have s36:=s36.nn
  refine .nil<| .region<| .ld 1 s36 4 rfl<| .ix 1 (s36.ah 7 rfl) rfl (hj:=by first|omega|(simp only [PJ];omega))<| .fl 0 (s36.ah 7 rfl) rfl (hj:=by first|omega|(simp only [PJ];omega))<| .lf 0 (s36.ah 7 rfl) hT1 rfl<| .a 1 rfl (.add rfl rfl (by unfold aY;omega))<| .ix 0 (s36.ah 7 rfl) rfl (hj:=by first|omega|(simp only [PJ];omega))<| .fl 0 (s36.ah 7 rfl) rfl (hj:=by first|omega|(simp only [PJ];omega))<| .f rfl (.j5 (E:=aG) 7 (KH ((a.tk.length:Nat):Int) (uh ((a.tk.length:Nat):Int) x)) cQ s36 rfl rfl rfl rfl hT1 rfl (by decide) λ _ s37 _=> ?_)
  refine .nil<| .U rfl ?_
  exact aT (jR+1,(R.set (a.rg.length+jR) (uh ((a.tk.length:Nat):Int) x)).set (a.rg.length+jR) (KH ((a.tk.length:Nat):Int) (uh ((a.tk.length:Nat):Int) x))) ⟨s37,by rw [SY,hR];exact ql (f:=l0 ((a.tk.length:Nat):Int)) hx,by omega⟩
 refine .ao<| .seq ?_
 have hER:R=a.rg++b.rg.map (l0 ((a.tk.length:Nat):Int)):=by rw [hR];exact vX (by have h9:R.length=a.rg.length+b.rg.length:=(by rw [hR];exact lb);omega)
 refine .dk [0,1,2,3,5,6,7] s35 rfl (pl [0,1,3,4,1002,1005,6,1007] .fin) λ s38 S14=> .ld 1 S14 0 rfl<| .ld 1 S14 1 rfl ?_
 have s39:=s38.aA 84 (bE)
 refine .f rfl (.aw 8 iE s39 rfl rfl rfl underlying27 (ha.n.ext s39.ext) (by first|omega|(simp;omega)) (by first|omega|(simp;omega)) λ v8 _ s40 _=> ?_)
 have S15:=s40.pk [0,1,2,3,5,6,7]
 refine ⟨S15,?_⟩
 refine .f rfl (.aw 8 iE s40 rfl rfl rfl underlying27 (hb.n.ext s40.ext) (by first|omega|(simp;omega)) (by first|omega|(simp;omega)) λ v9 _ s41 _=> ?_)
 have s41d:Sat w [_,_,_,_,_,_,_,_,cL v9 84 (bE) (a.nd++b.nd)] _:=s41
 have S16:=s41d.pk [0,1,2,3,5,6,7]
 refine ⟨S16,?_⟩
 refine .z 1 S16 rfl<| .f rfl (.aK su s41d (i:=4) rfl rfl rfl ((s41d.ah 8 rfl).ab) rfl λ _ s42 _=> ?_)
 have s42:=s42.nn
 have S17:=s42.pk [0,1,2,3,5,6,7]
 refine ⟨S17,?_⟩
 refine .fin<| .seq<| .Z rfl<| .block<| .lq [0,1,2,3,4,8,9,10,11,12,37,38,39] rfl (α:=Nat×List Nd) (λ (jN,N)=>[(13,(.int .i64 ((a.nd.length+jN):Nat)))]) (λ (jN,N) w'=>Sat w (s42.U [(8,cL v9 84 (bE) (N))]) w'/\(N=a.nd++((b.nd.take jN).map (zf ((a.tk.length:Nat):Int) ((a.nd.length:Nat):Int))++b.nd.drop jN))/\(jN<=b.nd.length)) (λ (jN,N)=>b.nd.length-jN) (0,a.nd++b.nd) ⟨s42,by simp,KD _⟩ ?_
 rintro ⟨jN,N⟩ w32 ⟨s43,hN,hjN⟩
 refine .seq<| .h<| .ld 2 s43 4 rfl<| .ln 0 (s43.ah 8 rfl) rfl<| .Z rfl<| .ae rfl (λ c4=> ?_) λ c4=> ?_
 ·refine .skip<| .seq<| .block<| .seq ?_
  have hTl:N.length=a.nd.length+b.nd.length:=by rw [hN];exact lb
  obtain ⟨x,hx⟩:∃ x,b.nd[jN]? =some x:=⟨_,py (by omega)⟩
  have hTx:N[a.nd.length+jN]? =some x:=by rw [hN,vW];exact hx
  have hT1:(N.set (a.nd.length+jN) (ui ((a.tk.length:Nat):Int) x))[(a.nd.length+jN)]? =some (ui ((a.tk.length:Nat):Int) x):=Qo (by omega)
  have hT2:((N.set (a.nd.length+jN) (ui ((a.tk.length:Nat):Int) x)).set (a.nd.length+jN) (Gz ((a.tk.length:Nat):Int) (ui ((a.tk.length:Nat):Int) x)))[(a.nd.length+jN)]? =some (Gz ((a.tk.length:Nat):Int) (ui ((a.tk.length:Nat):Int) x)):=Qo (by rw [PJ];omega)
  have hf1:(ui ((a.tk.length:Nat):Int) x).e=x.e:=rfl
  have hf2:(Gz ((a.tk.length:Nat):Int) (ui ((a.tk.length:Nat):Int) x)).p=x.p:=rfl
  have hxo:=(hob.nd.el x (a7 hx)).2.bd hob.tx
  have hxp:=(hob.nd.par jN x hx).imp_right (·.1)
  refine .region<| .ld 1 s43 4 rfl<| .ix 1 (s43.ah 8 rfl) rfl (hj:=by first|omega|(simp only [PJ];omega))<| .fl 0 (s43.ah 8 rfl) rfl (hj:=by first|omega|(simp only [PJ];omega))<| .lf 0 (s43.ah 8 rfl) hTx rfl<| .a 1 rfl (.add rfl rfl (by unfold aY;omega))<| .ix 0 (s43.ah 8 rfl) rfl (hj:=by first|omega|(simp only [PJ];omega))<| .fl 0 (s43.ah 8 rfl) rfl (hj:=by first|omega|(simp only [PJ];omega))<| .f rfl (.j5 (E:=bE) 8 (ui ((a.tk.length:Nat):Int) x) cQ s43 rfl rfl rfl rfl hTx rfl (by decide) λ _ s44 _=> ?_)
  refine .nil<| .h<| .ld 1 s44 4 rfl<| .ix 1 (s44.ah 8 rfl) rfl (hj:=by first|omega|(simp only [PJ];omega))<| .fl 0 (s44.ah 8 rfl) rfl (hj:=by first|omega|(simp only [PJ];omega))<| .lf 0 (s44.ah 8 rfl) hT1 rfl<| .a 1 rfl (.add rfl rfl (by unfold aY;omega))<| .ix 0 (s44.ah 8 rfl) rfl (hj:=by first|omega|(simp only [PJ];omega))<| .fl 0 (s44.ah 8 rfl) rfl (hj:=by first|omega|(simp only [PJ];omega))<| .f rfl (.j5 (E:=bE) 8 (Gz ((a.tk.length:Nat):Int) (ui ((a.tk.length:Nat):Int) x)) cQ s44 rfl rfl rfl rfl hT1 rfl (by decide) λ _ s45 _=> ?_)
  refine .nil<| .h<| .ld 1 s45 4 rfl<| .ix 1 (s45.ah 8 rfl) rfl (hj:=by first|omega|(simp only [PJ];omega))<| .fl 0 (s45.ah 8 rfl) rfl (hj:=by first|omega|(simp only [PJ];omega))<| .lf 0 (s45.ah 8 rfl) hT2 rfl<| .e rfl (.geq rfl rfl)<| .nil<| .ae rfl (λ c5=> ?_) λ c5=> ?_
  ·refine .trim [0,1,2,3,4,8,9,10,11,12,13,37,38,39] rfl<| .region<| .ld 1 s45 4 rfl<| .ix 1 (s45.ah 8 rfl) rfl (hj:=by first|omega|(simp only [PJ];omega))<| .fl 0 (s45.ah 8 rfl) rfl (hj:=by first|omega|(simp only [PJ];omega))<| .lf 0 (s45.ah 8 rfl) hT2 rfl<| .a 1 rfl (.add rfl rfl (by unfold aY;omega))<| .ix 0 (s45.ah 8 rfl) rfl (hj:=by first|omega|(simp only [PJ];omega))<| .fl 0 (s45.ah 8 rfl) rfl (hj:=by first|omega|(simp only [PJ];omega))<| .f rfl (.j5 (E:=bE) 8 (OX ((a.nd.length:Nat):Int) (Gz ((a.tk.length:Nat):Int) (ui ((a.tk.length:Nat):Int) x))) cQ s45 rfl rfl rfl rfl hT2 rfl (by decide) λ _ s46 _=> ?_)
   have s46:=s46.nn
   refine .nil<| .U rfl ?_
   exact aT (jN+1,((N.set (a.nd.length+jN) (ui ((a.tk.length:Nat):Int) x)).set (a.nd.length+jN) (Gz ((a.tk.length:Nat):Int) (ui ((a.tk.length:Nat):Int) x))).set (a.nd.length+jN) (OX ((a.nd.length:Nat):Int) (Gz ((a.tk.length:Nat):Int) (ui ((a.tk.length:Nat):Int) x)))) ⟨s46,by rw [LY (x:=x) (m:=((a.nd.length:Nat):Int)) c5,hN];exact ql (f:=zf ((a.tk.length:Nat):Int) ((a.nd.length:Nat):Int)) hx,by omega⟩
  refine .skip<| .trim [0,1,2,3,4,8,9,10,11,12,13,37,38,39] rfl<| .U rfl ?_
  exact aT (jN+1,(N.set (a.nd.length+jN) (ui ((a.tk.length:Nat):Int) x)).set (a.nd.length+jN) (Gz ((a.tk.length:Nat):Int) (ui ((a.tk.length:Nat):Int) x))) ⟨s45,by rw [LX (x:=x) (m:=((a.nd.length:Nat):Int)) c5,hN];exact ql (f:=zf ((a.tk.length:Nat):Int) ((a.nd.length:Nat):Int)) hx,by omega⟩
 refine .ao<| .seq<| .seq ?_
 have hEN:N=a.nd++b.nd.map (zf ((a.tk.length:Nat):Int) ((a.nd.length:Nat):Int)):=by rw [hN];exact vX (by have h9:N.length=a.nd.length+b.nd.length:=(by rw [hN];exact lb);omega)
 refine .region<| .ld 1 s43 0 rfl<| .ln 0 (ha.h.ext s43.ext) rfl<| .ld 1 s43 1 rfl<| .ln 0 (hb.h.ext s43.ext) rfl<| .Z rfl<| .ae rfl (λ c6=> ?_) λ c6=> ?_
 ·refine .seq ?_
  have hc9:=c6
  refine .region<| .lo 0 s43 0 rfl<| .c 0 (pa a _ (ha.ext s43.ext) (by omega)) rfl λ r5 _ h5=> ?_
  obtain ⟨vh1,vl1,hF1,rfl,p5⟩:=h5
  have s47:=s43.az p5
  refine .Z rfl<| .h<| .lo 0 s47 1 rfl<| .c 0 (pa b _ (hb.ext s47.ext) (by omega)) rfl λ r6 _ h6=> ?_
  obtain ⟨vh2,vl2,hF2,rfl,p6⟩:=h6
  have s48:=s47.az p6
  refine .Z rfl<| .h<| .z 1 rfl ?_
  have s49:=s48.aA 3 (Kw.encI .i64)
  refine .ap 0 s49 11 ((s49.bV 9 rfl) (ha.ext s49.ext)).1 rfl (h1:=by have:=dy hoa;simp;omega) (h2:=by have:=dy hoa;simp;omega) λ v10 _ s50 _=> .z 1 rfl ?_
  have s51:=s50.aA 9 (ax)
  refine .ap 0 s51 12 ((s51.bV 9 rfl) (ha.ext s51.ext)).2 rfl (h1:=by have:=dy hoa;simp;omega) (h2:=by have:=dy hoa;simp;omega) λ v11 _ s52 _=> .ap 1 s52 12 ((s52.bV 10 rfl) (hb.ext s52.ext)).2 rfl (h1:=by have:=dy hoa;have:=dy hob;simp;omega) (h2:=by have:=dy hoa;have:=dy hob;simp;omega) λ v12 _ s53 _=> ?_
  have s53d:Sat w [_,_,_,_,_,_,_,_,_,_,_,_,cL v12 9 (ax) (kf a++kf b)] _:=s53
  refine .st 1 s53d 4 rfl (h1:=(s53d.ah 11 rfl).ab) λ _ s54 _=> ?_
  have s54:=s54.nn
  refine .st 1 s54 4 rfl (h1:=(s54.ah 12 rfl).ab) λ _ s55 _=> .nil<| .seq<| .trim [0,1,2,3,4,8,9,10,11,12,13,14,15,16,17,37,38,39] rfl<| .region<| .ln 1 ((s55.bV 10 rfl) (hb.ext s55.ext)).1 rfl<| .Z rfl<| .block<| .lq [0,1,2,3,4,8,9,10,11,12,13,14,15,16,17,37,38,39,254,255] rfl (α:=Nat×Value×List Int) (λ (q,hv9,H)=>[(256,(.int .i64 q))]) (λ (q,hv9,H) w'=>Sat w (s55.U [(4,aq b5 30 [v1,v3,v5,v7,v9,hv9,v12]),(11,cL hv9 3 (Kw.encI .i64) (H))]) w'/\(H=jh a++((jh b).take q).map (vN ((a.tk.length:Nat):Int)))/\(H.length<=a.tk.length+q)) (λ (q,hv9,H)=>(jh b).length-q) (0,v10,jh a) ⟨s55,by simp,by have:=dy hoa;omega⟩ ?_
  rintro ⟨q,hv9,H⟩ w43 ⟨s56,hH,hHl⟩
  refine .Z rfl<| .seq<| .ae rfl (λ c7=> ?_) λ c7=> ?_
  ·refine .skip<| .seq<| .block<| .seq ?_
   obtain ⟨x,hx⟩:∃ x,(jh b)[q]? =some x:=⟨_,py c7⟩
   have hxl:=dy hob
   have hxr:=Nx hob hx
   refine .region<| .ix 0 ((s56.bV 10 rfl) (hb.ext s56.ext)).1 rfl<| .le 0 ((s56.bV 10 rfl) (hb.ext s56.ext)).1 hx rfl<| .Z rfl<| .jn [0,1,2,3,4,8,9,10,11,12,13,14,15,16,17,37,38,39,254,255,256] rfl (λ K L' w'=>Weak ([(19,(.int .i64 ((vN ((a.tk.length:Nat):Int) x))))]++K) L'/\Sat w s56.L w') ?_ ?_
   ·refine .h<| .a 1 rfl (.geq rfl rfl)<| .nil<| .ae rfl (λ c8=> ?_) λ c8=> ?_
    ·refine .region<| .a 2 rfl (.add rfl rfl (by unfold aY;omega))<| .Z rfl ?_
     exact ⟨⟨If some (If (Value.int .i64) (by unfold vN;first|rw [PI c8]|rw [M2 c8])),rfl,rfl,rfl,rfl,rfl,rfl,rfl,rfl,rfl,rfl,rfl,rfl,rfl,rfl,rfl,rfl,rfl,rfl,rfl,rfl,rfl,trivial⟩,s56⟩
    refine .skip ?_
    exact ⟨⟨If some (If (Value.int .i64) (by unfold vN;first|rw [PI c8]|rw [M2 c8])),rfl,rfl,rfl,rfl,rfl,rfl,rfl,rfl,rfl,rfl,rfl,rfl,rfl,rfl,rfl,rfl,rfl,rfl,rfl,rfl,rfl,trivial⟩,s56⟩
   rintro L' w44 ⟨hw1,s57⟩
   refine .weaken _ hw1<| .region<| .ld 1 s57 4 rfl<| .b 1 rfl (.bU (Kw.encI .i64) (vN ((a.tk.length:Nat):Int) x) aQ rfl s57 rfl λ v13 _ s58 _=> ?_)
   refine .ap 0 s58 11 (s58.ah 13 rfl) rfl (h1:=by have:=dy hob;simp only [KM];omega) (h2:=by have:=dy hob;simp only [KM];omega) λ v14 _ s59 _=> ?_
   have s59:=s59.pk [0,1,2,3,4,5,6,7,8,9,10,11,12]
   refine .st 1 s59 4 rfl (h1:=(s59.ah 11 rfl).ab) λ _ s60 _=> .nil<| .U rfl ?_
   exact aT (q+1,v14,H++[(vN ((a.tk.length:Nat):Int) x)]) ⟨s60,by rw [hH,sX hx,LW],by simp only [sp,KM];omega⟩
  refine .ao<| .seq ?_
  have hEH:H=jh a++(jh b).map (vN ((a.tk.length:Nat):Int)):=by rw [hH,PV (by omega)]
  refine .region<| .lo 0 s56 4 rfl<| .sa 0 s56 2 (vs:=[v1,v3,v5,v7,v9,hv9,v12]) rfl (λ v h=>by simp only [PR,PU,Q9] at h;rcases h with rfl|rfl|rfl|rfl|rfl|rfl|rfl;exact (s56.ah 3 rfl).ab;exact (s56.ah 5 rfl).ab;exact (s56.ah 6 rfl).ab;exact (s56.ah 7 rfl).ab;exact (s56.ah 8 rfl).ab;exact (s56.ah 11 rfl).ab;exact (s56.ah 12 rfl).ab) λ _ s61 _=> .Z rfl<| .ret ?_
  show aL _ _ _ _ _ _
  refine vj (vs:=[v1,v3,v5,v7,v9,hv9,v12]) rfl rfl rfl gP (λ j u hu=>s61.cell (i:=2) rfl hu) ?_
  obtain ⟨F,hF⟩:=(s61.pick [3,5,6,7,8,11,12] rfl).za 7 (Q:=λ w1=>RdC w1 a->RdC w1 b->RdC w1 (Co.mk v1 v3 v5 v7 v9 hv9 v12 (a.at_) (a.tk++b.tk) (T) (R) (N) (H) (kf a++kf b))) (λ w1 hA qa qb=>⟨hA.ah 0 rfl,hA.ah 1 rfl,hA.ah 2 rfl,hA.ah 3 rfl,hA.ah 4 rfl,hA.ah 5 rfl,hA.ah 6 rfl,GA (P:=λ s l=>RdL w1 s.val ax l) qa.tr qb.tr,by rw [hET];exact vY (P:=λ s l=>RdL w1 s.val aU l) qa.xr qb.xr,by rw [hER];exact vY (P:=λ s l=>RdL w1 s.val aU l) qa.rr qb.rr⟩)
  exact ⟨(Co.mk v1 v3 v5 v7 v9 hv9 v12 (a.at_) (a.tk++b.tk) (T) (R) (N) (H) (kf a++kf b)),F,rfl,⟨rfl,rfl,hET,hER,hEN,.inl ⟨hc9,hEH,rfl⟩⟩,hF⟩
 refine .skip<| .h<| .lo 0 s43 4 rfl<| .sa 0 s43 2 (vs:=[v1,v3,v5,v7,v9,(.slice none 0 0),(.slice none 0 0)]) rfl (λ v h=>by simp only [PR,PU,Q9] at h;rcases h with rfl|rfl|rfl|rfl|rfl|rfl|rfl;exact (s43.ah 3 rfl).ab;exact (s43.ah 5 rfl).ab;exact (s43.ah 6 rfl).ab;exact (s43.ah 7 rfl).ab;exact (s43.ah 8 rfl).ab;exact rfl;exact rfl) λ _ s63 _=> .Z rfl<| .ret ?_
 show aL _ _ _ _ _ _
 refine vj (vs:=[v1,v3,v5,v7,v9,(.slice none 0 0),(.slice none 0 0)]) rfl rfl rfl gP (λ j u hu=>s63.cell (i:=2) rfl hu) ?_
 obtain ⟨F,hF⟩:=(s63.pick [3,5,6,7,8] rfl).za 5 (Q:=λ w1=>RdC w1 a->RdC w1 b->RdC w1 (Co.mk v1 v3 v5 v7 v9 (Value.slice none 0 0) (Value.slice none 0 0) (a.at_) (a.tk++b.tk) (T) (R) (N) ([]) ([]))) (λ w1 hA qa qb=>⟨hA.ah 0 rfl,hA.ah 1 rfl,hA.ah 2 rfl,hA.ah 3 rfl,hA.ah 4 rfl,RdL.nil _ _,RdL.nil _ _,GA (P:=λ s l=>RdL w1 s.val ax l) qa.tr qb.tr,by rw [hET];exact vY (P:=λ s l=>RdL w1 s.val aU l) qa.xr qb.xr,by rw [hER];exact vY (P:=λ s l=>RdL w1 s.val aU l) qa.rr qb.rr⟩)
 exact ⟨(Co.mk v1 v3 v5 v7 v9 (Value.slice none 0 0) (Value.slice none 0 0) (a.at_) (a.tk++b.tk) (T) (R) (N) ([]) ([])),F,rfl,⟨rfl,rfl,hET,hER,hEN,.inr ⟨by omega,rfl,rfl⟩⟩,hF⟩
end Go.Proofs.YthffkcnbdehceaaGreat
