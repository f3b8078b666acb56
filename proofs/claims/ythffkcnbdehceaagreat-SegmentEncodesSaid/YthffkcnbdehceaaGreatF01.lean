/-The walks of the functions of F01,printed by our own program (kwgen.py) out of our descriptions (base.py). -/
import Derived.Test.YthffkcnbdehceaaGreatKm
import Derived.Test.YthffkcnbdehceaaGreatShelf
import Derived.Test.YthffkcnbdehceaaGreatTab
open List
open Go.Proofs.Tryz
set_option linter.unusedVariables false
set_option linter.unusedSimpArgs false
set_option linter.unusedSectionVars false
namespace Go.Proofs.YthffkcnbdehceaaGreat
open Go.RowKit Go.Kw
set_option maxRecDepth 100000
theorem wS (s:ByteArray) (w:World):
  CallsV prog 181 [(.string s)] w λ r w'=>∃ b,r= .func (.func 222) #[] #[.pointer (some ⟨b,0,none⟩)]/\Sat w [aq b 9 [.string s]] w':=by
 refine cg func181 rfl λ hs0=> .h<| .bx 0 hs0 rfl λ b1 _ s1 _ _=> .Z rfl<| .h<| .e rfl (.oW rfl)<| .Z rfl<| .aC rfl rfl ?_
 exact ⟨_,rfl,s1⟩
theorem Ch (w0 w:World) (s:ByteArray) (bs:Nat) (hn:s.size<=1000000) {G:Type} (l:Nat) (C X:List Un->G->List Chunk) (ds:List Chunk) (g0:G) (hs0:Sat w0 ([aq bs 9 [.string s]]++(C [] g0++ds)) w)
  (hr:∀ done u rest w2 es g,dR s.data.toList=done++u::rest->Sat w0 (C done g++es) w2->YieldV prog l [jF.ag u] w2 λ b w3=>(b=true/\∃ g',Sat w0 (C (done++[u]) g'++es) w3)\/(b=false/\∃ g',Sat w0 (X (done++[u]) g'++es) w3)):
  CallsV prog 222 [(.func (.yield l) #[] #[]),(.pointer (some ⟨bs,0,none⟩))] w λ _ w'=>(∃ g,Sat w0 ([aq bs 9 [.string s]]++(C (dR s.data.toList) g++ds)) w')\/∃ done u rest g,dR s.data.toList=done++u::rest/\Sat w0 ([aq bs 9 [.string s]]++(X (done++[u]) g++ds)) w':=by
 obtain ⟨tl,htl⟩:∃ tl,tl=C [] g0++ds:=⟨_,rfl⟩
 rw [<-htl] at hs0
 refine ai func222 rfl rfl ?_
 refine .h<| .e rfl (.build Hf rfl ⟨rfl,trivial⟩ rfl)<| .al 0 hs0 rfl λ b1 _ s1 _ _=> ?_
 have s1d:=s1.mn
 refine .sa 0 s1d 1 (vs:=[(.int .i32 (0:Nat)),(.int .i64 (-1)),(.int .i64 (0:Nat))]) rfl (λ v h=>by simp only [PR,PU,Q9] at h;rcases h with rfl|rfl|rfl;exact rfl;exact rfl;exact rfl) λ _ s2 _=> ?_
 have s2d:=s2.sn
 refine .nil<| .seq<| .h<| .ld 0 s2d 0 rfl<| .f rfl (.sI underlying9 s2d rfl λ it1 _ s3=> ?_)
 have s3d:=s3.mn
 refine .nil<| .block<| .lq [0,1,3,8] rfl (α:=Nat×Nat×Int×Int×List Un×G×List Chunk) (λ (i,r,a,z,done,gg,tl)=>[]) (λ (i,r,a,z,done,gg,tl) w'=>Sat w0 (s3d.V [(1,aq b1 240 [(.int .i32 r),(.int .i64 (a)),(.int .i64 (z))]),(2,oh it1 s (i))]++tl) w'/\(i<=s.size)/\(tl=C done gg++ds)/\((a= -1/\i=0/\done=[])\/(∃ a':Nat,a=(a':Int)/\a'<i/\dR s.data.toList=done++⟨r,a',i-a'⟩::cY s.data.toList i))) (λ (i,r,a,z,done,gg,tl)=>s.size-i) (0,0,(-1),0,[],g0,tl) ⟨s3d,KD _,htl,.inl ⟨rfl,rfl,rfl⟩⟩ ?_
 rintro ⟨i,r,a,z,done,gg,tl⟩ w4 ⟨s4,hi,htl,hp⟩
 refine .h<| .f rfl (.wL (i:=2) s4 rfl rfl ?_ ?_)
 ·intro hnx1
  refine .Z rfl<| .seq<| .aj rfl (rfl)<| .ao<| .seq ?_
  rcases hp with ⟨rfl,hi0,hd0⟩|⟨a',rfl,ha',hu⟩
  ·refine .region<| .ld 0 s4 0 rfl<| .e rfl (.bo underlying9 rfl)<| .ld 1 s4 1 rfl<| .e rfl (.sub rfl rfl (by unfold aY;omega))<| .st 1 s4 1 rfl λ _ s6 _=> ?_
   have s6d:=s6.sn
   refine .nil<| .h<| .ld 1 s6d 1 rfl<| .e rfl (.geq rfl rfl)<| .nil<| .aj rfl (IN (by omega))<| .skip ?_
   show aL _ _ _ _ _ _
   refine cv rfl ?_
   have hus:dR s.data.toList=[]:=by have:=pW (s:=s) (i:=0) (by omega);exact this
   rw [hd0] at htl
   subst htl
   rw [hus]
   exact .inl ⟨gg,s6d.sub ((.cons_cons _ (.cons _ (.cons _ (.refl _)))))⟩
  have hie:i=s.size:=by omega
  rw [hie,pW (KB _)] at hu
  refine .region<| .ld 0 s4 0 rfl<| .e rfl (.bo underlying9 rfl)<| .ld 1 s4 1 rfl<| .st 2 s4 1 rfl λ w7 s7 _=> ?_
  have s7d:=s7.sn
  refine .nil<| .h<| .ld 1 s7d 1 rfl<| .Z rfl<| .ea rfl (PM (by omega))<| .wN ?_
  refine RTI.ev rfl rfl (Ev.move rfl) ?_
  refine RTI.ev rfl rfl (Ev.fH oV rfl s7d (i:=1) rfl rfl) ?_
  have hy1:Sat w0 (C done gg++([aq bs 9 [(.string s)],aq b1 240 [(.int .i32 r),(.int .i64 a'),(.int .i64 ((s.size-a'):Nat))],oh it1 s (i)]++ds)) w7:=by rw [htl] at s7d;exact Sat.swap (A:=[aq bs 9 [(.string s)],aq b1 240 [(.int .i32 r),(.int .i64 a'),(.int .i64 ((s.size-a'):Nat))],oh it1 s (i)]) s7d
  refine RTI.yield rfl rfl rfl rfl ((YieldV.mono (hr done ⟨r,a',(s.size-a')⟩ [] _ ([aq bs 9 [(.string s)],aq b1 240 [(.int .i32 r),(.int .i64 a'),(.int .i64 ((s.size-a'):Nat))],oh it1 s (i)]++ds) gg hu hy1) ?_))
  rintro yb1 w8 (⟨rfl,g1,s8⟩|⟨rfl,g1,s8⟩)
  ·have s8d:=s8.swap
   obtain ⟨tl,htl⟩:∃ tl,tl=C (done++[⟨r,a',(s.size-a')⟩]) g1++ds:=⟨_,rfl⟩
   rw [<-htl] at s8d
   refine RTI.nil ?_
   show aL _ _ _ _ _ _
   refine cv rfl ?_
   subst htl
   rw [hu]
   exact .inl ⟨g1,s8d.sub ((.cons_cons _ (.cons _ (.cons _ (.refl _)))))⟩
  have s8d:=s8.swap
  refine RTI.nil ?_
  show aL _ _ _ _ _ _
  refine cv rfl ?_
  exact .inr ⟨done,⟨r,a',(s.size-a')⟩,_,g1,hu,s8d.sub ((.cons_cons _ (.cons _ (.cons _ (.refl _)))))⟩
 intro w5 hnx1 s5
 have s5d:=s5.sn
 refine .Z rfl<| .seq<| .ea rfl (rfl)<| .skip<| .block<| .Z rfl<| .seq ?_
 rcases hp with ⟨rfl,hi0,hd0⟩|⟨a',rfl,ha',hu⟩
 ·refine .region<| .ld 2 s5d 1 rfl<| .e rfl (.sub rfl rfl (by unfold aY;omega))<| .st 1 s5d 1 rfl λ _ s9 _=> ?_
  have s9d:=s9.sn
  refine .nil<| .seq<| .seq<| .wN ?_
  refine RTI.ev rfl rfl (Ev.fieldAddr yU rfl rfl) ?_
  refine RTI.ev rfl rfl (Ev.load gO rfl (s9d.cell (i:=1) (j:=1) rfl rfl)) ?_
  refine RTI.ev rfl rfl (Ev.geq rfl rfl) ?_
  refine RTI.ev rfl rfl (Ev.move rfl) ?_
  refine RTI.no rfl rfl rfl (IN (by omega)) rfl ?_
  refine RTI.no rfl rfl rfl (IN (by omega)) rfl ?_
  refine RTI.no rfl rfl rfl (IN (by omega)) rfl ?_
  refine RTI.no rfl rfl rfl (IN (by omega)) rfl ?_
  refine RTI.ev rfl rfl (Ev.Ot rfl (IN (by omega)) rfl) ?_
  refine RTI.nil ?_
  refine .aj rfl (rfl)<| .skip<| .region<| .a 2 rfl (.build Hf rfl ⟨rfl,rfl,trivial⟩ rfl)<| .sa 0 s9d 1 (vs:=[(.int .i32 ((dec (s.data.toList.drop i)).1:Nat)),(.int .i64 i),(.int .i64 (0:Nat))]) rfl (λ v h=>by simp only [PR,PU,Q9] at h;rcases h with rfl|rfl|rfl;exact rfl;exact rfl;exact rfl) λ _ s10 _=> ?_
  have s10d:=s10.sn
  refine .nil ?_
  exact ⟨(i+(dec (s.data.toList.drop i)).2,(dec (s.data.toList.drop i)).1,((i:Nat):Int),0,done,gg,tl),(wk rfl),⟨s10d,dP hnx1,htl,.inr ⟨i,rfl,by have:=cw (s.data.toList.drop i);omega,by subst hd0;subst hi0;exact iL hnx1⟩⟩,(show (s.size-(i+(dec (s.data.toList.drop i)).2))<(s.size-i) from by have:=cw (s.data.toList.drop i);have:=dP hnx1;omega)⟩
 refine .region<| .ld 2 s5d 1 rfl<| .st 2 s5d 1 rfl λ w11 s11 _=> ?_
 have s11d:=s11.sn
 refine .nil<| .seq<| .seq<| .wN ?_
 refine RTI.ev rfl rfl (Ev.fieldAddr yU rfl rfl) ?_
 refine RTI.ev rfl rfl (Ev.load gO rfl (s11d.cell (i:=1) (j:=1) rfl rfl)) ?_
 refine RTI.ev rfl rfl (Ev.Oj (b:=0) rfl rfl) ?_
 refine RTI.ev rfl rfl (Ev.move rfl) ?_
 refine RTI.yes rfl rfl rfl (PM (by omega)) ?_
 refine RTI.ev rfl rfl (Ev.move rfl) ?_
 refine RTI.yes rfl rfl rfl (PM (by omega)) ?_
 refine RTI.ev rfl rfl (Ev.fH oV rfl s11d (i:=1) rfl rfl) ?_
 refine RTI.yes rfl rfl rfl (PM (by omega)) ?_
 have hy2:Sat w0 (C done gg++([aq bs 9 [(.string s)],aq b1 240 [(.int .i32 r),(.int .i64 a'),(.int .i64 ((i-a'):Nat))],oh it1 s (i+(dec (s.data.toList.drop i)).2)]++ds)) w11:=by rw [htl] at s11d;exact Sat.swap (A:=[aq bs 9 [(.string s)],aq b1 240 [(.int .i32 r),(.int .i64 a'),(.int .i64 ((i-a'):Nat))],oh it1 s (i+(dec (s.data.toList.drop i)).2)]) s11d
 refine RTI.yield rfl rfl rfl rfl ((YieldV.mono (hr done ⟨r,a',(i-a')⟩ _ _ ([aq bs 9 [(.string s)],aq b1 240 [(.int .i32 r),(.int .i64 a'),(.int .i64 ((i-a'):Nat))],oh it1 s (i+(dec (s.data.toList.drop i)).2)]++ds) gg hu hy2) ?_))
 rintro yb2 w12 (⟨rfl,g2,s12⟩|⟨rfl,g2,s12⟩)
 ·have s12d:=s12.swap
  obtain ⟨tl,htl⟩:∃ tl,tl=C (done++[⟨r,a',(i-a')⟩]) g2++ds:=⟨_,rfl⟩
  rw [<-htl] at s12d
  refine RTI.yes rfl rfl rfl (PM (by omega)) ?_
  refine RTI.ev rfl rfl (Ev.cO rfl) ?_
  refine RTI.ev rfl rfl (Ev.Ld rfl (PM (by omega)) rfl) ?_
  refine RTI.nil ?_
  refine .aj rfl (rfl)<| .skip<| .region<| .a 2 rfl (.build Hf rfl ⟨rfl,rfl,trivial⟩ rfl)<| .sa 0 s12d 1 (vs:=[(.int .i32 ((dec (s.data.toList.drop i)).1:Nat)),(.int .i64 i),(.int .i64 (0:Nat))]) rfl (λ v h=>by simp only [PR,PU,Q9] at h;rcases h with rfl|rfl|rfl;exact rfl;exact rfl;exact rfl) λ _ s13 _=> ?_
  have s13d:=s13.sn
  refine .nil ?_
  exact ⟨(i+(dec (s.data.toList.drop i)).2,(dec (s.data.toList.drop i)).1,((i:Nat):Int),0,done++[⟨r,a',(i-a')⟩],g2,tl),(wk rfl),⟨s13d,dP hnx1,htl,.inr ⟨i,rfl,by have:=cw (s.data.toList.drop i);omega,by rw [hu,iL hnx1];simp⟩⟩,(show (s.size-(i+(dec (s.data.toList.drop i)).2))<(s.size-i) from by have:=cw (s.data.toList.drop i);have:=dP hnx1;omega)⟩
 have s12d:=s12.swap
 refine RTI.yes rfl rfl rfl (PM (by omega)) ?_
 refine RTI.ev rfl rfl (Ev.cO rfl) ?_
 refine RTI.ev rfl rfl (Ev.Ld rfl (PM (by omega)) rfl) ?_
 refine RTI.nil ?_
 refine .ea rfl (rfl)<| .ret ?_
 show aL _ _ _ _ _ _
 refine cv rfl ?_
 exact .inr ⟨done,⟨r,a',(i-a')⟩,_,g2,hu,s12d.sub ((.cons_cons _ (.cons _ (.cons _ (.refl _)))))⟩
theorem qt (w0:World) (s:ByteArray) (bs:Nat) (hn:s.size<=1000000):F8 prog 222 [.pointer (some ⟨bs,0,none⟩)] (λ u=>[jF.ag u]) (dR s.data.toList) [aq bs 9 [.string s]] w0:=
 λ _ l C X ds w g0 hs hr=>Ch w0 w s bs hn l C X ds g0 hs hr
theorem Ci (u:Un) (w:World):
  CallsV prog 182 [((jF).ag u)] w λ r w'=>r= .bool u.ok/\Sat w [] w':=by
 refine cg func182 rfl λ hs0=> .h<| .bx 0 hs0 rfl λ b1 _ s1 _ _=> .Z rfl<| .seq<| .bN 2 ((u.r≠65533)\/(u.size=3)) ?_ ?_
 ·refine .ld 1 s1 0 rfl<| .z 2 rfl<| .B 6 rfl (λ g1=> ?_) λ g1=> ?_
  ·refine .M rfl (by simp [g1])
  refine .ld 1 s1 0 rfl<| .M rfl (by simp [g1])
 refine .aC rfl rfl ?_
 have hq:u.ok=decide ((u.r≠65533)\/(u.size=3)):=by by_cases h1:u.r=65533<;>by_cases h2:u.size=3<;>simp [Un.ok,h1,h2]
 rw [hq]
 exact ⟨rfl,s1.pk []⟩
theorem HV (s:ByteArray) (w:World) (hn:s.size<=1000000):
  CallsV prog 223 [(.string s)] w λ r w'=>Sat w [cL r 240 jF (dR s.data.toList)] w':=by
 have hs0:=Sat.start w
 refine n4 func223 rfl rfl ?_
 refine CT.seq ?_
 refine .U rfl ?_
 refine CT.seq ?_
 refine .region<| .al 0 hs0 rfl λ b1 _ s1 _ _=> .nil ?_
 refine CT.Ox ?_
 have s2:=s1.aA 240 (jF)
 refine .region<| .c 1 (wS s _) rfl λ r1 _ h_1=> ?_
 obtain ⟨ub1,rfl,p1⟩:=h_1
 have s3:=s2.az p1
 refine .nil ?_
 refine xG (own:=[aq ub1 9 [(.string s)]]) (cs:=[]) (enc:=λ u=>jF.ag u) (us:=dR s.data.toList) (λ done (gv:Value)=>[aq b1 279 [gv],cL gv 240 (jF) (done)]) (λ done (gv:Value)=>[iK False])
  (λ u b=>[(3,(.pointer (some ⟨b1,0,none⟩))),(4,(.pointer (some ⟨b,0,none⟩)))]) (λ done (gv:Value) u b=>[aq b1 279 [gv],cL gv 240 (jF) (done),aq b 240 [(.int .i32 u.r),(.int .i64 u.at_),(.int .i64 u.size)]]) (Value.slice none 0 0) rfl rfl Ho s3 (qt _ _ _ (hn)) ?_ ?_ ?_ ?_
 ·intro lp done u rest w2 ds gv hu hs2
  refine CWR.weaken [(3,(.pointer (some ⟨b1,0,none⟩))),(7,((jF).ag u))] ⟨rfl,rfl,trivial⟩ ?_
  refine CWR.region (by rfl) ?_
  refine .f rfl (.alloc hs2 wC λ b2 _ s4 _ _=> ?_)
  have s4d:=s4.mn
  refine .f rfl (.cz (vs:=(jF).enc u) oV s4d (i:=2) rfl rfl rfl rfl ((jF).one _) λ _ s5 _=> ?_)
  have s5d:=s5.sn
  refine .nil ?_
  exact ⟨b2,⟨rfl,rfl,trivial⟩,s5d⟩
 ·intro lp done u rest b w2 ds gv hu hs2
  refine CWR.block ?_
  refine CWR.region (by rfl) ?_
  refine .e rfl (.load K5 rfl (hs2.cell (i:=0) (j:=0) rfl rfl))<| .e rfl (.fH oV rfl hs2 (i:=2) rfl rfl)<| .f rfl (.cn (jF) u Hi (by decide) (by decide) hs2 rfl λ v1 _ s6 _=> ?_)
  have s6d:=s6.mn
  refine .f rfl (.aw 1 Hi s6d rfl rfl rfl underlying279 (s6d.ah 3 rfl) (by have h1:=gD s.data.toList;have h2:=If List.length hu;rw [sJ] at h1;simp only [sp,KP,KY] at h2⊢;omega) (by have h1:=gD s.data.toList;have h2:=If List.length hu;rw [sJ] at h1;simp only [sp,KP,KY] at h2⊢;omega) λ v2 _ s7 _=> ?_)
  have s7d:=(s7.sn).pt [0,1,2]
  refine .f rfl (.aK Mq s7d (i:=0) rfl rfl rfl ((s7d.ah 1 rfl).ab) rfl λ _ s8 _=> ?_)
  have s8d:=s8.sn
  refine .nil ?_
  have s9:=s8d.pt [0,1]
  exact ⟨_,s9⟩
 ·intro D w2 gv hs2
  have hs3:Sat w [aq b1 279 [gv],cL gv 240 (jF) ((dR s.data.toList)),aq ub1 9 [(.string s)],gV D (some [])] w2:=hs2
  refine .ld 0 hs3 0 rfl<| .Z rfl ?_
  refine ⟨[aq b1 279 [gv],cL gv 240 (jF) ((dR s.data.toList)),aq ub1 9 [(.string s)]],hs3,λ w3 hs4=> ?_⟩
  exact Ko rfl rfl (hs4.sub (.cons _ (.cons_cons _ (.cons _ (.cons _ .slnil)))))
 intro done u rest D w2 gv hu hs2
 exact hs2.wK.elim
theorem gY (s:ByteArray) (w:World) (hn:s.size<=1000000):
  CallsV prog 123 [(.string s)] w λ r w'=>r= .bool (dw s)/\Sat w [] w':=by
 have hs0:=Sat.start w
 refine n4 func123 rfl rfl ?_
 refine CT.seq ?_
 refine .region<| .al 0 hs0 rfl λ b1 _ s1 _ _=> .nil ?_
 refine CT.Ox ?_
 have s2:Sat w [iK (∀ u∈([]:List Un),u.ok=true),aq b1 4 [(.bool false)]] _:=s1.pure (p:=∀ u∈([]:List Un),u.ok=true) (by simp)
 refine .region<| .c 1 (wS s _) rfl λ r1 _ h1=> ?_
 obtain ⟨ub1,rfl,p1⟩:=h1
 have s3:=s2.az p1
 refine .nil ?_
 refine xG (own:=[aq ub1 9 [(.string s)]]) (cs:=[]) (enc:=λ u=>jF.ag u) (us:=dR s.data.toList) (λ done (gv:Unit)=>[iK (∀ u∈done,u.ok=true),aq b1 4 [(.bool false)]]) (λ done (gv:Unit)=>[iK (∃ u∈done,u.ok=false),aq b1 4 [(.bool false)]])
  (λ u b=>[(2,(.pointer (some ⟨b1,0,none⟩))),(3,(.pointer (some ⟨b,0,none⟩)))]) (λ done (gv:Unit) u b=>[iK (∀ u∈done,u.ok=true),aq b1 4 [(.bool false)],aq b 240 [(.int .i32 u.r),(.int .i64 u.at_),(.int .i64 u.size)]]) () rfl rfl Ho s3 (qt _ _ _ (hn)) ?_ ?_ ?_ ?_
 ·intro lp done u rest w2 ds gv hu hs2
  refine CWR.weaken [(2,(.pointer (some ⟨b1,0,none⟩))),(6,((jF).ag u))] ⟨rfl,rfl,trivial⟩ ?_
  refine CWR.region (by rfl) ?_
  refine .f rfl (.alloc hs2 wC λ b2 _ s4 _ _=> ?_)
  have s4d:=s4.mn
  refine .f rfl (.cz (vs:=(jF).enc u) oV s4d (i:=2) rfl rfl rfl rfl ((jF).one _) λ _ s5 _=> ?_)
  have s5d:=s5.sn
  refine .nil ?_
  exact ⟨b2,⟨rfl,rfl,trivial⟩,s5d⟩
 ·intro lp done u rest b w2 ds gv hu hs2
  refine CWR.block ?_
  refine CWR.seq ?_
  refine CWR.region (by rfl) ?_
  refine .e rfl (.fH oV rfl hs2 (i:=2) rfl rfl)<| .f rfl (.call Mw rfl ((Ci u _).mono λ r2 _ h2=> ?_))
  obtain ⟨rfl,p2⟩:=h2
  have s6:=(hs2.az p2).mn
  refine .e rfl (.cO rfl)<| .nil ?_
  refine CWR.cond rfl (λ c1=> ?_) (λ c1=> ?_)
  ·refine CWR.seq ?_
   refine CWR.region (by rfl) ?_
   refine .f rfl (.aK Mc s6 (i:=1) rfl rfl rfl (rfl) rfl λ _ s7 _=> ?_)
   have s7d:=s7.sn
   refine .nil ?_
   refine CWR.ret ?_
   have s8:=s7d.pt [0,1]
   exact ⟨(),s8.Hz (q:=∃ v∈done++[u],v.ok=false) (λ _=>⟨u,by simp,by simpa using c1⟩)⟩
  refine CWR.skip ?_
  have s9:=s6.pt [0,1]
  exact ⟨(),s9.Hz (q:=∀ v∈done++[u],v.ok=true) (λ hp v hv=>by rcases PT.1 hv with hv|hv;exact hp v hv;rw [Q0.1 hv];simpa using c1)⟩
 ·intro D w2 gv hs2
  have hs3:Sat w [iK (∀ u∈(dR s.data.toList),u.ok=true),_,aq ub1 9 [(.string s)],gV D (some [])] w2:=hs2
  refine .st 0 hs3 1 rfl λ _ s10 _=> ?_
  have s10:=s10.nn
  refine .nil ?_
  refine ⟨[iK (∀ u∈(dR s.data.toList),u.ok=true),aq b1 4 [(.bool true)],aq ub1 9 [(.string s)]],s10,λ w3 hs4=> ?_⟩
  have hok:dw s=true:=Qt.2 (hs3.wK)
  refine Ff rfl rfl KO (hs4.cell (i:=1) (j:=0) rfl rfl) ?_
  exact ⟨by rw [hok],hs4.sub ((.cons _ (.cons _ (.cons _ (.cons _ .slnil)))))⟩
 intro done u rest D w2 gv hu hs2
 obtain ⟨v,hv,hbad⟩:=hs2.wK
 have hok:dw s=false:=by
  cases hq:dw s with
  |false=>rfl
  |true=>
   have:=Qt.1 hq v (by rw [hu];rw [show done++u::rest=(done++[u])++rest by simp];exact R3 _ hv)
   rw [hbad] at this;cases this
 refine Ff rfl rfl KO (hs2.cell (i:=1) (j:=0) rfl rfl) ?_
 exact ⟨by rw [hok],hs2.sub (.cons _ (.cons _ (.cons _ (.cons _ .slnil))))⟩
theorem zg (s:ByteArray) (w:World) (hn:s.size<=1000000):
  CallsV prog 183 [(.string s)] w λ r w'=>r= .string (vz s)/\Sat w [] w':=by
 refine cg func183 rfl λ hs0=> .Z rfl<| .h<| .c 1 (HV s _ (hn)) rfl λ r1 _ h1=> ?_
 have s1:=hs0.az h1
 refine .Z rfl<| .h<| .a 1 rfl (.bo underlying9 rfl)<| .f rfl (.cP (aa .u8) (0) (l:=0) ch rfl s1 rfl rfl (by omega) (by omega) (by omega) λ v1 _ s2 _=> ?_)
 refine .Z rfl<| .seq<| .seq ?_
 have hul:=gD s.data.toList
 rw [sJ] at hul
 refine .region<| .ln 1 (s2.ah 0 rfl) rfl<| .e rfl (.sub (b:=(1:Int)) rfl rfl (by unfold aY;omega))<| .Z rfl<| .block<| .lq [0,3] rfl (α:=Nat×Value×List Nat) (λ (m1,v,acc)=>[(4,v),(5,(.int .i64 ((((m1:Nat):Int)-1))))]) (λ (m1,v,acc) w'=>Sat w (s2.U [(1,cL v 5 (aa .u8) (acc))]) w'/\(m1<=(dR s.data.toList).length)/\(acc=zZ s ((dR s.data.toList).drop m1))/\(acc.length<=((dR s.data.toList).length-m1)*1000000)) (λ (m1,v,acc)=>m1) ((dR s.data.toList).length,v1,[]) ⟨s2,KB _,by rw [SO]<;>rfl,KD _⟩ ?_
 rintro ⟨m1,v,acc⟩ w3 ⟨s3,hm,hacc,hlen⟩
 refine .seq<| .h<| .a 1 rfl (.geq rfl rfl)<| .nil<| .ae rfl (λ c1=> ?_) λ c1=> ?_
 ·refine .skip<| .seq<| .block ?_
  obtain ⟨j,rfl⟩:∃ j,m1=j+1:=⟨m1-1,by omega⟩
  refine .weaken [(0,_),(3,_),(4,_),(5,(.int .i64 j)),(14,_)] ⟨rfl,rfl,rfl,If some (If (Value.int .i64) (by omega)),rfl,trivial⟩ ?_
  obtain ⟨u,hu⟩:∃ u,(dR s.data.toList)[j]? =some u:=⟨_,py (by omega)⟩
  have hur:=(xV s.data.toList u (PO hu)).1
  rw [sJ] at hur
  have hdj:=cV hu
  have hps:(bF (s.extract u.at_ (u.at_+u.size))).length<=1000000:=by rw [ay,PQ];omega
  have hshp1:=(s3.ah (E:=aa .u8) 1 rfl).iH (by decide)
  refine .dk [0] s3 rfl (pl [0,1,2,3,4,5,6,7,8,9,10,11,12,13,14,15,16,17,18,1019,20] .fin) λ s4 S1=> .ix 4 S1 (·.ah 0 rfl) rfl<| .fl 0 S1 (·.ah 0 rfl) rfl<| .lf 0 S1 (·.ah 0 rfl) hu rfl<| .ix 2 S1 (·.ah 0 rfl) rfl<| .fl 0 S1 (·.ah 0 rfl) rfl<| .lf 0 S1 (·.ah 0 rfl) hu rfl<| .ix 2 S1 (·.ah 0 rfl) rfl<| .fl 0 S1 (·.ah 0 rfl) rfl<| .lf 0 S1 (·.ah 0 rfl) hu rfl<| .z 1 S1 rfl<| .e rfl (λ _ q=> .fI (l:=u.at_) (h:=(u.at_+u.size)) underlying9 rfl ⟨_,rfl⟩ ⟨_,rfl⟩ (by omega) (by omega)) S1<| .f rfl (.gu 1 ch s4 rfl rfl rfl (oq underlying9 _) (by omega) (by omega) λ v2 _ s5 _=> ?_)
  have S2:=s5.pk [0]
  refine ⟨S2,?_⟩
  refine .Z S2 rfl<| .region<| .a 1 rfl (.sub (b:=(1:Int)) rfl rfl (by unfold aY;omega))<| .Z rfl ?_
  exact ⟨(j,v2,acc++bF (s.extract u.at_ (u.at_+u.size))),(wk rfl),⟨s5,by omega,by rw [hacc,hdj,Dj],by rw [sp];omega⟩,(show ((j))<(j+1) from by omega)⟩
 refine .ao<| .h<| .a 1 rfl (.cZ underlying45 underlying9 underlying5 rfl (s3.ah 1 rfl))<| .Z rfl<| .aC rfl rfl ?_
 have h0:m1=0:=by omega
 subst h0
 rw [hacc,Ra,Fc,Fb]
 exact ⟨rfl,s3.pk []⟩
theorem Cj (s:ByteArray) (w:World) (hn:s.size<=1000000):
  CallsV prog 236 [(.string s)] w λ r w'=>Sat w [cL r 299 jA ((dR s.data.toList).map sP)] w':=by
 refine cg func236 rfl λ hs0=> .Z rfl<| .Z rfl<| .seq<| .seq ?_
 have s1:=hs0.aA 299 (jA)
 refine .region<| .b 1 rfl (.sI underlying9 s1 rfl λ it1 _ s2=> ?_)
 refine .nil<| .block<| .lq [0,8] rfl (α:=Nat×Value×List RU×List Un) (λ (i,v,l,done)=>[(3,v)]) (λ (i,v,l,done) w'=>Sat w [cL v 299 (jA) (l),oh it1 s (i)] w'/\(i<=s.size)/\(l.length<=i)/\((i=0/\done=[]/\l=[])\/(∃ r a,a<i/\l=done.map kO++[⟨r,a,0,false⟩]/\dR s.data.toList=done++⟨r,a,i-a⟩::cY s.data.toList i))) (λ (i,v,l,done)=>s.size-i) (0,(.slice none 0 0),[],[]) ⟨s2,KD _,KB _,.inl ⟨rfl,rfl,rfl⟩⟩ ?_
 rintro ⟨i,v,l,done⟩ w2 ⟨s3,hi,hll,hp⟩
 refine .h<| .f rfl (.wL (i:=1) s3 rfl rfl ?_ ?_)
 ·intro hnx1
  refine .Z rfl<| .seq<| .aj rfl (rfl)<| .ao<| .AP (λ L' w'=>∃ (v2:Value),Weak [(3,v2)] L'/\Sat w [cL v2 299 (jA) ((dR s.data.toList).map kO)] w') ?_ ?_
  ·refine .seq ?_
   rcases hp with ⟨hi0,hd0,hl0⟩|⟨r,a,ha,hl,hu⟩
   ·have hlp:¬ 0<l.length:=by rw [hl0];simp
    have hdl:done.length=0:=by rw [hd0]<;>rfl
    refine .region<| .ln 1 (s3.ah 0 rfl) rfl<| .Z rfl<| .aj rfl (IN hlp)<| .skip ?_
    have s5:=s3.aZ 0 rfl (show l=done.map kO from by rw [hl0,hd0]<;>rfl)
    have s6:=s5.aZ 0 rfl (show done.map kO=(dR s.data.toList).map kO from by rw [hd0];have h0:dR s.data.toList=[]:=pW (s:=s) (i:=0) (by omega);rw [h0])
    exact ⟨v,⟨rfl,trivial⟩,s6.pk [0]⟩
   have hx:=Bi hl
   obtain ⟨x,hxd⟩:∃ x:RU,x=⟨r,a,0,false⟩:=⟨_,rfl⟩
   rw [<-hxd] at hx
   have hxa:x.at_=a:=by rw [hxd]
   have hlp:0<l.length:=by rw [hl];simp
   have hdl:done.length+1=l.length:=by rw [hl];simp
   refine .region<| .ln 1 (s3.ah 0 rfl) rfl<| .Z rfl<| .ea rfl (PM hlp)<| .region<| .ln 2 (s3.ah 0 rfl) rfl<| .a 2 rfl (.bo underlying9 rfl)<| .ln 2 (s3.ah 0 rfl) rfl<| .ix 1 (s3.ah 0 rfl) rfl<| .fl 0 (s3.ah 0 rfl) rfl<| .lf 0 (s3.ah 0 rfl) hx rfl<| .ix 1 (s3.ah 0 rfl) rfl<| .fl 0 (s3.ah 0 rfl) rfl<| .f rfl (.j5 (E:=jA) 0 (⟨x.r,x.at_,(s.size-x.at_),x.ok⟩) cQ s3 rfl rfl rfl rfl hx rfl (by decide) λ _ s8 _=> ?_)
   refine .nil ?_
   have s9:=s8.aZ 0 rfl (show l.set (l.length-1) (⟨x.r,x.at_,(s.size-x.at_),x.ok⟩)=(done++[(⟨r,a,s.size-a⟩:Un)]).map kO from by rw [hxd];exact Fe _ hl)
   have s10:=s9.aZ 0 rfl (show (done++[(⟨r,a,s.size-a⟩:Un)]).map kO=(dR s.data.toList).map kO from by rw [hu,show i=s.size by omega,pW (KB _)])
   exact ⟨v,⟨rfl,trivial⟩,s10.pk [0]⟩
  rintro L' w5 ⟨v2,hw1,s12⟩
  refine .weaken _ hw1<| .seq<| .h<| .ln 1 (s12.ah 0 rfl) rfl<| .Z rfl<| .block ?_
  have hul:=gD s.data.toList
  rw [sJ] at hul
  have hml:((dR s.data.toList).map kO).length=(dR s.data.toList).length:=No ..
  have s13:=s12.aZ 0 rfl (show (dR s.data.toList).map kO=((dR s.data.toList).take 0).map sP++((dR s.data.toList).drop 0).map kO from by simp)
  refine .lq [57] rfl (α:=Nat×Value) (λ (k,v)=>[(3,v),(58,(.int .i64 k))]) (λ (k,v) w'=>Sat w [cL v 299 (jA) (((dR s.data.toList).take k).map sP++((dR s.data.toList).drop k).map kO)] w'/\(k<=(dR s.data.toList).length)) (λ (k,v)=>(dR s.data.toList).length-k) (0,v2) ⟨s13,KD _⟩ ?_
  rintro ⟨k,v⟩ w6 ⟨s14,hk⟩
  refine .Z rfl<| .seq<| .ae rfl (λ c1=> ?_) λ c1=> ?_
  ·refine .skip<| .seq<| .block<| .Z rfl ?_
   obtain ⟨u,hu⟩:∃ u,(dR s.data.toList)[k]? =some u:=⟨_,py (by simp only [sp,No,KV,PK] at*;omega)⟩
   refine .region<| .ix 4 (s14.ah 0 rfl) rfl (hj:=by simp only [sp,No,KV,PK] at*;omega)<| .fl 0 (s14.ah 0 rfl) rfl (hj:=by simp only [sp,No,KV,PK] at*;omega)<| .lf 0 (s14.ah 0 rfl) (vy hu) rfl<| .z 2 rfl<| .B 69 rfl (λ g1=> ?_) λ g1=> ?_
   ·refine .ix 7 (s14.ah 0 rfl) rfl (hj:=by simp only [sp,No,KV,PK] at*;omega)<| .fl 0 (s14.ah 0 rfl) rfl (hj:=by simp only [sp,No,KV,PK] at*;omega)<| .f rfl (.j5 (E:=jA) 0 (⟨u.r,u.at_,u.size,true⟩) Mc s14 rfl rfl rfl rfl (vy hu) rfl (by decide) λ _ s15 _=> ?_)
    have s15:=s15.nn
    refine .nil ?_
    have s16:=s15.aZ 0 rfl (show (((dR s.data.toList).take k).map sP++((dR s.data.toList).drop k).map kO).set k (⟨u.r,u.at_,u.size,true⟩)=((dR s.data.toList).take (k+1)).map sP++((dR s.data.toList).drop (k+1)).map kO from Bh hu (IM g1))
    refine .U rfl ?_
    exact ⟨(k+1,v),(wk rfl),⟨s16,by simp only [No] at*;omega⟩,(show ((dR s.data.toList).length-(k+1))<((dR s.data.toList).length-k) from by simp only [No] at*;omega)⟩
   refine .ix 2 (s14.ah 0 rfl) rfl (hj:=by simp only [sp,No,KV,PK] at*;omega)<| .fl 0 (s14.ah 0 rfl) rfl (hj:=by simp only [sp,No,KV,PK] at*;omega)<| .lf 0 (s14.ah 0 rfl) (vy hu) rfl<| .ix 2 (s14.ah 0 rfl) rfl (hj:=by simp only [sp,No,KV,PK] at*;omega)<| .fl 0 (s14.ah 0 rfl) rfl (hj:=by simp only [sp,No,KV,PK] at*;omega)<| .f rfl (.j5 (E:=jA) 0 (⟨u.r,u.at_,u.size,decide ((kO u).size=3)⟩) Mc s14 rfl rfl rfl rfl (vy hu) rfl (by decide) λ _ s17 _=> ?_)
   have s17:=s17.nn
   refine .nil ?_
   have s18:=s17.aZ 0 rfl (show (((dR s.data.toList).take k).map sP++((dR s.data.toList).drop k).map kO).set k (⟨u.r,u.at_,u.size,decide ((kO u).size=3)⟩)=((dR s.data.toList).take (k+1)).map sP++((dR s.data.toList).drop (k+1)).map kO from Bh hu (IP g1))
   refine .U rfl ?_
   exact ⟨(k+1,v),(wk rfl),⟨s18,by simp only [No] at*;omega⟩,(show ((dR s.data.toList).length-(k+1))<((dR s.data.toList).length-k) from by simp only [No] at*;omega)⟩
  refine .ao<| .Z rfl<| .aC rfl rfl ?_
  have s19:=s14.aZ 0 rfl (show ((dR s.data.toList).take k).map sP++((dR s.data.toList).drop k).map kO=(dR s.data.toList).map sP from by rw [show k=(dR s.data.toList).length by omega,PW,SO];simp)
  exact s19
 intro w3 hnx1 s4
 refine .Z rfl<| .seq<| .ea rfl (rfl)<| .skip<| .block<| .Z rfl<| .seq<| .seq ?_
 rcases hp with ⟨hi0,hd0,hl0⟩|⟨r,a,ha,hl,hu⟩
 ·have hlp:¬ 0<l.length:=by rw [hl0];simp
  have hdl:done.length=0:=by rw [hd0]<;>rfl
  refine .region<| .ln 1 (s4.ah 0 rfl) rfl<| .Z rfl<| .aj rfl (IN hlp)<| .skip ?_
  have s20:=s4.aZ 0 rfl (show l=done.map kO from by rw [hl0,hd0]<;>rfl)
  refine .region<| .a 3 rfl (.build L4 rfl ⟨rfl,rfl,trivial⟩ rfl)<| .f rfl (.cn (jA) (⟨(dec (s.data.toList.drop i)).1,i,0,false⟩:RU) Hm (by decide) (by decide) s20 rfl λ v1 _ s21 _=> ?_)
  have s21:=s21.nn
  refine .ap 0 s21 0 (s21.ah 2 rfl) rfl (h1:=by simp only [sp,No,KP,KY] at*;omega) (h2:=by simp only [sp,No,KP,KY] at*;omega) λ v_2 _ s22 _=> ?_
  refine .Z rfl ?_
  exact ⟨(i+(dec (s.data.toList.drop i)).2,v_2,done.map kO++[(⟨(dec (s.data.toList.drop i)).1,i,0,false⟩:RU)],done),(wk rfl),⟨s22.pk [0,1],dP hnx1,by have:=cw (s.data.toList.drop i);simp only [sp,No,KP,KY] at*;omega,.inr ⟨(dec (s.data.toList.drop i)).1,i,by have:=cw (s.data.toList.drop i);omega,rfl,by subst hd0;subst hi0;exact iL hnx1⟩⟩,(show (s.size-(i+(dec (s.data.toList.drop i)).2))<(s.size-i) from by have:=cw (s.data.toList.drop i);have:=dP hnx1;omega)⟩
 have hx:=Bi hl
 obtain ⟨x,hxd⟩:∃ x:RU,x=⟨r,a,0,false⟩:=⟨_,rfl⟩
 rw [<-hxd] at hx
 have hxa:x.at_=a:=by rw [hxd]
 have hlp:0<l.length:=by rw [hl];simp
 have hdl:done.length+1=l.length:=by rw [hl];simp
 refine .region<| .ln 1 (s4.ah 0 rfl) rfl<| .Z rfl<| .ea rfl (PM hlp)<| .region<| .ln 2 (s4.ah 0 rfl) rfl<| .ln 4 (s4.ah 0 rfl) rfl<| .ix 1 (s4.ah 0 rfl) rfl<| .fl 0 (s4.ah 0 rfl) rfl<| .lf 0 (s4.ah 0 rfl) hx rfl<| .ix 1 (s4.ah 0 rfl) rfl<| .fl 0 (s4.ah 0 rfl) rfl<| .f rfl (.j5 (E:=jA) 0 (⟨x.r,x.at_,(i-x.at_),x.ok⟩) cQ s4 rfl rfl rfl rfl hx rfl (by decide) λ _ s23 _=> ?_)
 have s23:=s23.nn
 refine .nil ?_
 have s24:=s23.aZ 0 rfl (show l.set (l.length-1) (⟨x.r,x.at_,(i-x.at_),x.ok⟩)=(done++[(⟨r,a,i-a⟩:Un)]).map kO from by rw [hxd];exact Fe _ hl)
 refine .region<| .a 3 rfl (.build L4 rfl ⟨rfl,rfl,trivial⟩ rfl)<| .f rfl (.cn (jA) (⟨(dec (s.data.toList.drop i)).1,i,0,false⟩:RU) Hm (by decide) (by decide) s24 rfl λ v3 _ s25 _=> ?_)
 refine .ap 0 s25 0 (s25.ah 2 rfl) rfl (h1:=by simp only [sp,No,KP,KY] at*;omega) (h2:=by simp only [sp,No,KP,KY] at*;omega) λ v_4 _ s26 _=> ?_
 refine .Z rfl ?_
 exact ⟨(i+(dec (s.data.toList.drop i)).2,v_4,(done++[(⟨r,a,i-a⟩:Un)]).map kO++[(⟨(dec (s.data.toList.drop i)).1,i,0,false⟩:RU)],done++[⟨r,a,i-a⟩]),(wk rfl),⟨s26.pk [0,1],dP hnx1,by have:=cw (s.data.toList.drop i);simp only [sp,No,KP,KY] at*;omega,.inr ⟨(dec (s.data.toList.drop i)).1,i,by have:=cw (s.data.toList.drop i);omega,rfl,by rw [hu,iL hnx1];simp⟩⟩,(show (s.size-(i+(dec (s.data.toList.drop i)).2))<(s.size-i) from by have:=cw (s.data.toList.drop i);have:=dP hnx1;omega)⟩
theorem mJ (s:ByteArray) (w:World) (hn:s.size<=1000000):
  CallsV prog 197 [(.string s)] w λ r w'=>r= .bool (dw s)/\Sat w [] w':=by
 refine cg func197 rfl λ hs0=> .Z rfl<| .seq<| .h<| .c 1 (Cj s _ (hn)) rfl λ r1 _ h_1=> ?_
 have s1:=hs0.az h_1
 refine .ln 0 (s1.ah 0 rfl) rfl<| .Z rfl<| .block<| .lq [6,7] rfl (α:=Nat) (λ k=>[(8,(.int .i64 k))]) (λ k w'=>Sat w s1.L w'/\(k<=((dR s.data.toList).map sP).length)/\(((dR s.data.toList).take k).all Un.ok=true)) (λ k=>((dR s.data.toList).map sP).length-k) 0 ⟨s1,KD _,rfl⟩ ?_
 rintro k w2 ⟨s2,hk,hall⟩
 refine .Z rfl<| .seq<| .ae rfl (λ c1=> ?_) λ c1=> ?_
 ·refine .skip<| .seq<| .block<| .seq ?_
  have hml:((dR s.data.toList).map sP).length=(dR s.data.toList).length:=No ..
  obtain ⟨u,hu⟩:∃ u,(dR s.data.toList)[k]? =some u:=⟨_,py (by omega)⟩
  have hx:((dR s.data.toList).map sP)[k]? =some (sP u):=by rw [PX,hu]<;>rfl
  refine .region<| .ix 0 (s2.ah 0 rfl) rfl<| .lg 0 (s2.ah 0 rfl) hx rfl<| .al 0 s2 rfl λ b1 _ s3 _ _=> .sa 0 s3 1 rfl ((jA).one _) λ _ s4 _=> ?_
  have s4:=s4.nn
  refine .nil<| .h<| .ld 1 s4 1 rfl<| .e rfl (.cO rfl)<| .nil<| .cond rfl (λ c2=> ?_) (λ c2=> ?_)
  ·refine .Z rfl<| .aC rfl rfl ?_
   have hf:dw s=false:=by
    cases hq:dw s with
    |false=>rfl
    |true=>
     have h1:=Qt.1 hq u (PO hu)
     have h2:u.ok=false:=by simpa [sP] using c2
     rw [h1] at h2;cases h2
   rw [hf]
   exact ⟨rfl,s4.pk []⟩
  refine .skip<| .region<| .e rfl (.Kc (b:=1) rfl rfl (by have h1:=gD s.data.toList;rw [sJ] at h1;omega))<| .Z rfl ?_
  exact aT (k+1) ⟨s4.pk [0],by omega,Fa hall hu (by simpa [sP] using c2)⟩
 refine .ao<| .Z rfl<| .aC rfl rfl ?_
 have hml:((dR s.data.toList).map sP).length=(dR s.data.toList).length:=No ..
 have hf:dw s=true:=by rw [show k=(dR s.data.toList).length by omega,PW] at hall;exact hall
 rw [hf]
 exact ⟨rfl,s2.pk []⟩
end Go.Proofs.YthffkcnbdehceaaGreat
