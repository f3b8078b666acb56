/-The walks of the functions of F15,printed by our own program (kwgen.py) out of our descriptions (base.py). -/
import Derived.Test.YthffkcnbdehceaaGreatM14d
import Derived.Test.YthffkcnbdehceaaGreatF06v
open List
open Go.Proofs.Tryz
set_option linter.unusedVariables false
set_option linter.unusedSimpArgs false
set_option linter.unusedSectionVars false
namespace Go.Proofs.YthffkcnbdehceaaGreat
open Go.RowKit Go.Kw
set_option maxRecDepth 100000
theorem DC (v:Value) (l:List Nat) (w:World) (hv:RdL w v (a8 .i64) l) (hn:l.length<=128) (hb:∀ x∈l,x<=2147483647):
  CallsV prog 226 [v] w λ r w'=>r= .int .i64 0/\Sat w [] w':=by
 refine cc func226 rfl λ hs0=> .Z rfl<| .seq<| .h<| .ln 1 (hv.ext hs0.ext) rfl<| .Z rfl<| .ak rfl (decide_eq_false (by omega))<| .skip<| .seq<| .h<| .ln 1 (hv.ext hs0.ext) rfl<| .Z rfl<| .block<| .lq [8,9] rfl (α:=Nat) (λ k=>[(10,(.int .i64 k))]) (λ k w'=>Sat w [] w'/\(k<=l.length)) (λ k=>l.length-k) 0 ⟨hs0,Nat.zero_le _⟩ ?_
 rintro k w1 ⟨s1,hk⟩
 refine .Z rfl<| .seq<| .ab rfl (λ c1=> ?_) λ c1=> ?_
 ·refine .skip<| .seq<| .block<| .seq ?_
  obtain ⟨x,hx⟩:∃ x,(l)[k]? =some x:=⟨_,getElem?_eq_getElem c1⟩
  refine .region<| .ix 0 (hv.ext s1.ext) rfl<| .le 0 (hv.ext s1.ext) hx rfl<| .Z rfl<| .seq<| .bH 19 ((x<0)\/(2147483647<x)) ?_ ?_
  ·refine .z 3 rfl<| .B 16 rfl (λ g1=> ?_) λ g1=> ?_
   ·refine .M rfl (by simp [g1])
   refine .M rfl (by simp [g1])
  refine .ak rfl (decide_eq_false (by have:=hb x (aa hx);omega))<| .skip<| .U rfl ?_
  exact bc (k+1) ⟨s1,by omega⟩
 refine .ao<| .Z rfl<| .aC rfl rfl ?_
 exact ⟨rfl,s1⟩
theorem iu (x:Nat) (w:World) (hx:x<2^63):
  CallsV prog 275 [(.int .i64 x)] w λ r w'=>r= .int .i64 ((lk x:Nat):Int)/\Sat w [] w':=by
 refine cc func275 rfl λ hs0=> .Z rfl<| .seq ?_
 have hb:=bitLen_le64 x
 refine .region<| .cp 2 hs0 (mC (x) _ (by omega)) rfl λ _ s1=> .e rfl (.OK (b:=1) rfl rfl)<| .a 1 rfl (.quo (b:=7) rfl rfl (by omega) (by unfold bo;omega))<| .Z rfl<| .aC rfl rfl ?_
 exact ⟨rfl,s1⟩
theorem IK (v:Value) (l:List Nat) (width:Nat) (w:World) (hv:RdL w v (a8 .i64) l) (hn:l.length<=4096) (hb:∀ x∈l,x<2^63) (hw:width<=31):
  CallsV prog 259 [v,(.int .i64 width)] w λ r w'=>r= .int .i64 ((jo width l:Nat):Int)/\Sat w [] w':=by
 refine cc func259 rfl λ hs0=> .Z rfl<| .Z rfl<| .seq<| .h<| .ln 1 (hv.ext hs0.ext) rfl<| .Z rfl<| .block<| .lq [0,1,11,12] rfl (α:=Nat×Nat×Nat×Nat) (λ (k,n,c,b)=>[(5,(.int .i64 n)),(6,(.int .i64 c)),(7,(.int .i64 ((((b:Nat):Int)-1)))),(13,(.int .i64 k))]) (λ (k,n,c,b) w'=>Sat w [] w'/\(k<=l.length)/\(mi width (l.take k)=(k,n,c,b))/\(n<=20*k)/\(c<=k)/\(b<=k)) (λ (k,n,c,b)=>l.length-k) (0,0,0,0) ⟨hs0,Nat.zero_le _,rfl,Nat.le_refl _,Nat.le_refl _,Nat.le_refl _⟩ ?_
 rintro ⟨k,n,c,b⟩ w1 ⟨s1,hk,hst,hnb,hcb,hbb⟩
 refine .Z rfl<| .seq<| .ab rfl (λ c1=> ?_) λ c1=> ?_
 ·refine .skip<| .seq<| .block<| .seq ?_
  obtain ⟨x,hx⟩:∃ x,(l)[k]? =some x:=⟨_,getElem?_eq_getElem c1⟩
  refine .region<| .ix 1 (hv.ext s1.ext) rfl<| .le 0 (hv.ext s1.ext) hx rfl<| .Z rfl<| .seq ?_
  have hx64:=hb x (aa hx)
  have hxd:=Nat.div_le_self x (2^width)
  refine .U rfl<| .Z rfl<| .ab rfl (λ c2=> ?_) λ c2=> ?_
  ·refine .seq ?_
   have h8:=eP (k+1-b)
   have h9:=eP (x/2^width)
   refine .region<| .a 3 rfl (.rZ rfl rfl (by omega) (by omega))<| .cp 0 s1 (iu ((k+1-b)) _ (by omega)) rfl λ _ s2=> .cp 1 s2 (iu ((x/2^width)) _ (by omega)) rfl λ _ s3=> .Z rfl<| .Z rfl<| .U rfl<| .U rfl ?_
   exact ⟨(k+1,(n+((lk ((k+1-b)))+(lk ((x/2^width))))),(c+1),k+1),⟨rfl,rfl,congrArg some (congrArg (Value.int .i64) (by omega)),rfl,rfl,rfl,rfl,rfl,trivial⟩,⟨s3,by omega,by rw [au hx,qw,hst];simp [oe,c2],by have h8:=eP (k+1-b);have h9:=eP (x/2^width);omega,by omega,by omega⟩,by dsimp only;omega⟩
  refine .skip<| .U rfl ?_
  exact bc (k+1,n,c,b) ⟨s1,by omega,by rw [au hx,qw,hst];simp [oe,c2],by have h8:=eP (k+1-b);have h9:=eP (x/2^width);omega,by omega,by omega⟩
 refine .ao<| .seq ?_
 have hmul:l.length*width<=4096*31:=Nat.mul_le_mul hn hw
 have h1:=eP l.length
 have h2:=eP width
 have h3:=eP c
 refine .region<| .ln 2 (hv.ext s1.ext) rfl<| .cp 0 s1 (iu (l.length) _ (by omega)) rfl λ _ s4=> .cp 2 s4 (iu (width) _ (by omega)) rfl λ _ s5=> .cq 2 s5 (iu (c) _ (by omega)) rfl λ _ s6=> .ln 2 (hv.ext s6.ext) rfl<| .a 3 rfl (.quo (b:=8) rfl rfl (by omega) (by unfold bo;omega))<| .Z rfl<| .aC rfl rfl ?_
 have hk2:k=l.length:=by omega
 refine ⟨?_,s6⟩
 unfold jo
 rw [show mi width l=(k,n,c,b) by rw [<-hst,hk2,take_length]]
theorem DD (v:Value) (l:List Nat) (width:Nat) (w:World) (hv:RdL w v (a8 .i64) l) (hn:l.length<=4096) (hb:∀ x∈l,x<2^63) (hw:width<=31):
  CallsV prog 227 [v,(.int .i64 width)] w λ r w'=>Sat w [cL r 5 (a8 .u8) (og width l)] w':=by
 refine cc func227 rfl λ hs0=> .Z rfl<| .h<| .c 0 (iW _) rfl λ r1 _ h_1=> ?_
 obtain ⟨b1,rfl,p1⟩:=h_1
 have s1:=hs0.aD p1
 refine .Z rfl<| .Z rfl<| .Z rfl<| .seq<| .h<| .ln 1 (hv.ext s1.ext) rfl<| .Z rfl<| .block ?_
 have s2:=s1.aH 5 (a8 .u8)
 refine .lq [0,1,5,14,15] rfl (α:=Nat×Value×List Bool×Value×List Nat×Nat×Nat) (λ (k,wv,bits,ev,ex,c,b)=>[(6,ev),(7,(.int .i64 c)),(8,(.int .i64 ((((b:Nat):Int)-1)))),(16,(.int .i64 k))]) (λ (k,wv,bits,ev,ex,c,b) w'=>Sat w [aj b1 256 [wv,(.int .i64 ((bits).length:Nat))],cL wv 5 (a8 .u8) (aJ (bits)),cL ev 5 (a8 .u8) (ex)] w'/\(k<=l.length)/\(eS width (l.take k)=(k,bits,ex,c,b))/\(bits.length<=31*k)/\(ex.length<=20*k)/\(c<=k)/\(b<=k)) (λ (k,wv,bits,ev,ex,c,b)=>l.length-k) (0,(.slice none 0 0),[],(.slice none 0 0),[],0,0) ⟨s2,Nat.zero_le _,rfl,by simp,by simp,Nat.le_refl _,Nat.le_refl _⟩ ?_
 rintro ⟨k,wv,bits,ev,ex,c,b⟩ w2 ⟨s3,hk,hst,hbl,hel,hcb,hbb⟩
 refine .Z rfl<| .seq<| .ab rfl (λ c1=> ?_) λ c1=> ?_
 ·refine .skip<| .seq<| .block<| .seq ?_
  obtain ⟨x,hx⟩:∃ x,(l)[k]? =some x:=⟨_,getElem?_eq_getElem c1⟩
  refine .region<| .ix 1 (hv.ext s3.ext) rfl<| .le 0 (hv.ext s3.ext) hx rfl<| .Z rfl<| .seq ?_
  have hx64:=hb x (aa hx)
  have hxd:=Nat.div_le_self x (2^width)
  have hp1:1<=2^width:=Nat.one_le_two_pow
  have hp2:2^width<=2^31:=Nat.pow_le_pow_right (by decide) hw
  refine .region<| .a 5 rfl (.KK (b:=1) rfl rfl rfl (by (try simp only [IntKind.bits]);omega) (by (try simp only [IntKind.bits]);omega))<| .e rfl (.LM (width) rfl rfl rfl (by simp only [IntKind.bits];rw [Nat.one_mul,Nat.mod_eq_of_lt (by omega)]) (by simp only [IntKind.bits];omega) (by simp only [IntKind.bits];omega))<| .z 1 rfl ?_
  have A1:=s3.tail.oc [0,1,2] 2
  refine .c 0 (yc _ _ _ _ _ (bits) ((x%2^width)) (width) A1 (Nat.mod_lt _ (by omega)) (by omega) (by omega)) rfl λ r2 _ h_2=> ?_
  obtain ⟨rfl,wv1,p2⟩:=h_2
  have s4:=(Sat.order [0,1,2] (by decide) p2.join).aF.nn
  refine .nil<| .Z rfl<| .Z rfl<| .ab rfl (λ c2=> ?_) λ c2=> ?_
  ·refine .h<| .a 3 rfl (.rZ rfl rfl (by omega) (by omega))<| .c 1 (cS ev (ex) ((k+1-b)) _ (s4.ah 2 rfl) (by omega) (by omega)) rfl λ r3 _ h_3=> ?_
   have s5:=s4.aD h_3
   refine .Z rfl<| .h<| .c 3 (cS r3 (ex++uv ((k+1-b))) ((x/2^width)) _ (s5.ah 3 rfl) (by have h8:=aN (k+1-b);simp only [length_append];omega) (by omega)) rfl λ r4 _ h4=> ?_
   have s6:=s5.aD h4
   refine .Z rfl<| .Z rfl<| .U rfl<| .trim [0,1,5,6,7,8,9,10,11,14,15,16] rfl<| .U rfl ?_
   exact ⟨(k+1,wv1,bits++aZ ((x%2^width)) (width),r4,ex++uv ((k+1-b))++uv ((x/2^width)),(c+1),k+1),⟨rfl,rfl,congrArg some (congrArg (Value.int .i64) (by omega)),rfl,rfl,rfl,rfl,rfl,rfl,trivial⟩,⟨s6.pk [0,1,4],by omega,by rw [au hx,jf,hst];simp [eQ,c2],by simp only [length_append,aW];omega,by have h8:=aN (k+1-b);have h9:=aN (x/2^width);(try simp only [length_append]);omega,by omega,by omega⟩,by dsimp only;omega⟩
  refine .skip<| .U rfl ?_
  exact bc (k+1,wv1,bits++aZ ((x%2^width)) (width),ev,ex,c,b) ⟨s4,by omega,by rw [au hx,jf,hst];simp [eQ,c2],by simp only [length_append,aW];omega,by have h8:=aN (k+1-b);have h9:=aN (x/2^width);(try simp only [length_append]);omega,by omega,by omega⟩
 refine .ao<| .seq ?_
 have hpl:=aR bits
 have h1:=aN l.length
 have h2:=aN width
 have h3:=aN c
 refine .region<| .ln 1 (hv.ext s3.ext) rfl<| .c 1 (cS (Value.slice none 0 0) ([]) (l.length) _ (RdL.nil _ _) (by simp) (by omega)) rfl λ r5 _ h5=> ?_
 have s8:=s3.aD h5
 refine .Z rfl<| .h<| .c 3 (cS r5 (uv (l.length)) (width) _ (s8.ah 3 rfl) (by omega) (by omega)) rfl λ r6 _ h6=> ?_
 have s9:=(s8.aD h6).nn
 refine .Z rfl<| .h<| .c 3 (cS r6 (uv (l.length)++uv (width)) (c) _ (s9.ah 4 rfl) (by simp only [length_append];omega) (by omega)) rfl λ r7 _ h7=> ?_
 have s10:=s9.aD h7
 refine .Z rfl<| .h<| .c 2 (oL _ _ (aJ (bits)) _ (s10.cell (i:=0) (j:=0) rfl rfl) (s10.ah 1 rfl) (by omega)) rfl λ r8 _ h_8=> ?_
 have s11:=s10.aD h_8
 refine .ap 0 s11 5 (s11.ah 6 rfl) rfl (h1:=by simp only [length_append];omega) (h2:=by simp only [length_append];omega) λ v1 _ s12 _=> .ap 1 s12 5 (s12.ah 2 rfl) rfl (h1:=by simp only [length_append];omega) (h2:=by simp only [length_append];omega) λ v2 _ s13 _=> .Z rfl<| .aC rfl rfl ?_
 have s15:=(s13.pk [5]).cF 0 rfl (show uv (l.length)++uv (width)++uv (c)++aJ (bits)++ex=og width l from by unfold og;rw [show eS width l=(k,bits,ex,c,b) by rw [<-hst,show k=l.length by omega,take_length]])
 exact s15
theorem IL (v:Value) (l:List Nat) (w:World) (hv:RdL w v (a8 .i64) l) (hn:l.length<=4096) (hb:∀ x∈l,x<2^63):
  CallsV prog 228 [v] w λ r w'=>r= .int .i64 ((ec l 32:Nat):Int)/\Sat w [] w':=by
 refine cc func228 rfl λ hs0=> .Z rfl<| .h<| .al 0 hs0 rfl λ b1 w1 s1 _ _=> .nil<| .Z rfl<| .seq<| .Z rfl<| .block ?_
 have s2:Sat w [aj b1 321 ((a8 .i64).all (List.replicate 32 0))] w1:=s1
 refine .lq [0,3] rfl (α:=Nat×Nat×List Nat) (λ (k,bw,cl)=>[(4,(.int .i64 bw)),(6,(.int .i64 k))]) (λ (k,bw,cl) w'=>Sat w [aj b1 321 ((a8 .i64).all (cl))] w'/\(k<=32)/\(cl.length=32)/\(∀ i,i<k->cl[i]? =some (jo i l))/\(bw=ec l k)) (λ (k,bw,cl)=>32-k) (0,0,List.replicate 32 0) ⟨s2,by omega,by simp,λ i hi=>absurd hi (by omega),rfl⟩ ?_
 rintro ⟨k,bw,cl⟩ w2 ⟨s3,hk,hlen,hcl,hbw⟩
 refine .Z rfl<| .seq<| .ab rfl (λ c1=> ?_) λ c1=> ?_
 ·refine .skip<| .seq<| .block<| .Z rfl<| .h<| .cp 3 s3 (IK _ (l) (k) _ (hv.ext s3.ext) (hn) (hb) (by omega)) rfl λ _ s4=> .e rfl (.cX BQ rfl rfl (by omega))<| .f rfl (.setArr (E:=a8 .i64) (a:=(jo (k) (l))) 0 dj s4 rfl rfl rfl rfl (by omega) λ _ s5 _=> ?_)
  have s5:=s5.nn
  refine .nil<| .seq ?_
  have hget1:(cl.set k (jo (k) (l)))[k]? =some (jo k l):=by rw [getElem?_set_self (by omega)]
  have hget2:(cl.set k (jo (k) (l)))[bw]? =some (jo bw l):=by
   by_cases hkb:bw=k
   ·rw [hkb];exact hget1
   rw [getElem?_set_ne (λ h=>hkb h.symm)];exact hcl bw (by have:=iN l k;omega)
  refine .dk [0] s5 rfl (pl [0,1,2,3,4,5,6] .fin) λ s6 S1=> .z 1 S1 rfl<| .e rfl (λ _ s=> .cX BQ rfl rfl (by omega)) S1<| .e rfl (λ _ s=> .load fN rfl (s.sd (E:=a8 .i64) 0 rfl hget1 (by decide) rfl)) S1<| .z 1 S1 rfl<| .e rfl (λ _ s=> .cX BQ rfl rfl (by have:=iN l k;omega)) S1<| .e rfl (λ _ s=> .load fN rfl (s.sd (E:=a8 .i64) 0 rfl hget2 (by decide) rfl)) S1<| .Z S1 rfl<| .ab rfl (λ c2=> ?_) λ c2=> ?_
  ·refine .U rfl<| .U rfl ?_
   exact bc (k+1,k,cl.set k (jo (k) (l))) ⟨s6,by omega,by simp [hlen],λ i hi=>by
   by_cases hik:i=k
   ·rw [hik];exact hget1
   ·rw [getElem?_set_ne (λ h=>hik h.symm)];exact hcl i (by omega),by rw [ec,<-hbw];simp [c2]⟩
  refine .skip<| .U rfl ?_
  exact bc (k+1,bw,cl.set k (jo (k) (l))) ⟨s6,by omega,by simp [hlen],λ i hi=>by
   by_cases hik:i=k
   ·rw [hik];exact hget1
   ·rw [getElem?_set_ne (λ h=>hik h.symm)];exact hcl i (by omega),by rw [ec,<-hbw];simp [c2]⟩
 refine .ao<| .Z rfl<| .aC rfl rfl ?_
 rw [show k=32 by omega] at hbw
 rw [<-hbw]
 exact ⟨rfl,s3.pk []⟩
theorem BY (v:Value) (l:List Nat) (w:World) (hv:RdL w v (a8 .i64) l) (hn:l.length<=128) (hb:∀ x∈l,x<=2147483647):
  CallsV prog 187 [v] w λ r w'=>∃ v',r= .tuple #[v',.int .i64 0]/\Sat w [cL v' 5 (a8 .u8) (bS l)] w':=by
 refine cc func187 rfl λ hs0=> .seq ?_
 have hb2:∀ x∈l,x<2^63:=λ x hx=>by have:=hb x hx;omega
 refine .U rfl<| .seq<| .h<| .cp 1 hs0 (DC _ (l) _ (hv.ext hs0.ext) (hn) (hb)) rfl λ _ s1=> .Z rfl<| .Z rfl<| .ak rfl (rfl)<| .skip<| .h<| .cp 2 s1 (IL _ (l) _ (hv.ext s1.ext) (by omega) (hb2)) rfl λ _ s2=> .c 0 (DD _ (l) ((ec (l) 32)) _ (hv.ext s2.ext) (by omega) (hb2) (by have:=iN l 32;omega)) rfl λ r3 _ h3=> ?_
 have s3:=(s2.aD h3).nn
 refine .Z rfl<| .bG rfl rfl rfl ?_
 exact ⟨_,rfl,s3⟩
def aA:Enc It:=⟨4,λ x=>[.int .i64 (x.w:Int),.int .i64 x.sym,.int .i64 (x.lf:Int),.int .i64 (x.rt:Int)],λ _=>rfl,λ x u h=>by simp at h;rcases h with rfl|rfl|rfl|rfl<;>rfl⟩
theorem yf {α:Type} {l:List α} {i j:Nat} {x y z:α} (hx:l[i]? =some x) (hy:l[j]? =some y) (h:z∈(l.set i y).set j x):z∈l:=by
 rcases mem_or_eq_of_mem_set h with h|rfl
 ·rcases mem_or_eq_of_mem_set h with h|rfl
  ·exact h
  exact mem_of_getElem? hy
 exact mem_of_getElem? hx
def l8 {α:Type} (P:Program) (fi:FuncId) (cap:Array Value) (val:α->Value) (key:α->Nat) (D:α->Prop) (w0:World) (cs:List Chunk):Prop:=
 ∀ c w,Sat w0 ([c]++cs) w->∀ a b,D a->D b->CallsV P fi ([val a,val b]++cap.toList) w λ r w'=>∃ z:Int,r= .int .i64 z/\(z<0↔key a<key b)/\Sat w [] w'
theorem F5 (w0 w:World) (cs:List Chunk) (v:Value) (f:Value) (l:List It) (a b n:Nat) (hs:Sat w0 ([cL v 288 (aA) (l)]++cs) w) (ha:a+n<=l.length) (hb:b+n<=l.length) (hn:l.length<=1000000000000):
  CallsV prog 287 [v,(.int .i64 a),(.int .i64 b),(.int .i64 n),f] w λ r w'=>r= .tuple #[]/\Sat w0 ([cL v 288 (aA) (bF l a b n)]++cs) w':=by
 refine ae func287 rfl rfl ?_
 refine .Z rfl<| .block<| .lq [0,1,2,3] rfl (α:=Nat) (λ k=>[(10,(.int .i64 k))]) (λ k w'=>Sat w0 ([cL v 288 (aA) (bF l a b k)]++cs) w'/\(k<=n)) (λ k=>n-k) 0 ⟨hs,Nat.zero_le _⟩ ?_
 rintro k w1 ⟨s1,hk⟩
 refine .seq<| .Z rfl<| .ab rfl (λ c1=> ?_) λ c1=> ?_
 ·refine .skip<| .seq<| .block ?_
  have hlk:(bF l a b k).length=l.length:=nS ..
  obtain ⟨x,hx⟩:∃ x,(bF l a b k)[(a+k)]? =some x:=⟨_,getElem?_eq_getElem (by omega)⟩
  obtain ⟨y,hy⟩:∃ y,(bF l a b k)[(b+k)]? =some y:=⟨_,getElem?_eq_getElem (by omega)⟩
  have hshp1:=(s1.ah (E:=aA) 0 rfl).iR (by decide)
  refine .lr (λ w'=>Sat w0 ([cL v 288 (aA) (bF l a b k)]++cs) w') (λ w'=>Sat w0 ([]++cs) w') 21 (pl [0,1,2,3] (.loose 4 (.loose 5 (.loose 6 (.loose 7 (pl [8,9,10,11,12,13] (.loose 14 (.loose 15 (.loose 16 (.loose 17 (.loose 18 (pl [19,20] (.bar 21 (pl [22,1023] .fin)))))))))))))) (λ w' h=>h.sub ((.cons _ (.refl _)))) mixed (by kernel_rfl) ?_
  have s2:=s1.drew
  refine .z 4 s2 rfl<| .loose rfl rfl rfl (λ _ s=> .move rfl) s2<| .loose rfl rfl rfl (λ _ s=> .move rfl) s2<| .loose rfl rfl rfl (λ _ s=> .move rfl) s2<| .loose rfl rfl rfl (λ _ s=> .vj rfl rfl (by omega)) s2<| .ix 4 s2 (·.ah 0 rfl) rfl<| .lg 0 s2 (·.ah 0 rfl) hy rfl<| .loose rfl rfl rfl (λ _ s=> .move rfl) s2<| .loose rfl rfl rfl (λ _ s=> .move rfl) s2<| .loose rfl rfl rfl (λ _ s=> .move rfl) s2<| .loose rfl rfl rfl (λ _ s=> .vj rfl rfl (by omega)) s2<| .loose rfl rfl rfl (λ _ s=> .fK ig rfl rfl hshp1 (by omega)) s2<| .lg 0 s2 (·.ah 0 rfl) hx rfl<| .ix 0 s2 (·.ah 0 rfl) rfl<| .bar rfl rfl rfl (OpE.ji (a:=y) 0 kg s2 rfl rfl rfl (by (try simp only [length_set]);omega) (by decide) λ _ s3 _=> ?_)
  have S1:Sat w0 ([]++cs) _:=s3.sub ((.cons _ (.refl _)))
  refine ⟨S1,?_⟩
  refine .e rfl (λ _ s=> .fK ig rfl rfl hshp1 (by omega)) S1<| .f rfl (.ji (a:=x) 0 kg s3 rfl rfl rfl (by (try simp only [length_set]);omega) (by decide) λ w3 s4 _=> ?_)
  have S2:Sat w0 ([]++cs) _:=s4.sub ((.cons _ (.refl _)))
  refine ⟨S2,?_⟩
  refine .fin ?_
  have s5:Sat w0 ([cL v 288 (aA) (bF l a b (k+1))]++cs) w3:=by
   have hq:((bF l a b k).set (a+k) y).set (b+k) x=bF l a b (k+1):=by rw [bF,nR hx hy]
   rw [<-hq];exact s4
  refine .U rfl ?_
  exact bc (k+1) ⟨s5,by omega⟩
 refine .ao ?_
 show aK _ _ _ _ _ _
 refine bt rfl ?_
 have s6:Sat w0 ([cL v 288 (aA) (bF l a b n)]++cs) w1:=by
  have hq:bF l a b k=bF l a b n:=by rw [show k=n by omega]
  rw [<-hq];exact s1
 exact ⟨rfl,s6⟩
theorem KT (w0 w:World) (cs:List Chunk) (v:Value) (l:List It) (a b:Nat) (key:It->Nat) (D:It->Prop) (fi:FuncId) (cap:Array Value) (hE:Enters prog fi) (hcmp:l8 prog fi cap aA.ag key D w0 cs) (hs:Sat w0 ([cL v 288 (aA) (l)]++cs) w) (hD:∀ x∈l,D x) (ha:a<=l.length) (hb:b<=l.length) (hn:l.length<=1000000000000):
  CallsV prog 282 [v,(.int .i64 a),(.int .i64 b),(.func (.func fi) #[] cap)] w λ r w'=>r= .tuple #[]/\Sat w0 ([cL v 288 (aA) (cP key a l (b-a-1))]++cs) w':=by
 refine ae func282 rfl rfl ?_
 refine .Z rfl<| .block<| .lq [0,1,2,3] rfl (α:=Nat) (λ k=>[(8,(.int .i64 ((a+k+1):Nat)))]) (λ k w'=>Sat w0 ([cL v 288 (aA) (cP key a l k)]++cs) w'/\(k=0\/a+k+1<=b)/\(∀ x∈cP key a l k,D x)) (λ k=>b-k) 0 ⟨hs,.inl rfl,hD⟩ ?_
 rintro k w1 ⟨s1,hk,hDk⟩
 refine .seq<| .Z rfl<| .ab rfl (λ c1=> ?_) λ c1=> ?_
 ·refine .skip<| .seq<| .block<| .Z rfl<| .block<| .lq [0,1,2,3,8] rfl (α:=Nat×List It) (λ (j,cur)=>[(9,(.int .i64 j))]) (λ (j,cur) w'=>Sat w0 ([cL v 288 (aA) (cur)]++cs) w'/\(j<=a+k+1)/\(l3 key a j cur=l3 key a (a+k+1) (cP key a l k))/\(cur.length=l.length)/\(∀ x∈cur,D x)) (λ (j,cur)=>j) (a+k+1,cP key a l k) ⟨s1,Nat.le_refl _,rfl,jS ..,hDk⟩ ?_
  rintro ⟨j,cur⟩ w2 ⟨s2,hj,hcur,hlc,hDc⟩
  refine .seq<| .seq ?_
  obtain ⟨x,hx⟩:∃ x,(cur)[j]? =some x:=⟨_,getElem?_eq_getElem (by omega)⟩
  obtain ⟨y,hy⟩:∃ y,(cur)[(j-1)]? =some y:=⟨_,getElem?_eq_getElem (by omega)⟩
  refine .md [0,1,2,3,8,9] rfl (λ K L' w'=>Weak ([(34,(.bool (decide ((a<j)/\(key x<key y)))))]++K) L'/\Sat w0 s2.L w') ?_ ?_
  ·refine .draw (λ w'=>Sat w0 ([cL v 288 (aA) (cur)]++cs) w') (pl [0,1,2,3,4,5,6,7,8,9,10,11,12,13,1014,15,16] .fin) mixed (by kernel_rfl) ?_
   have s3:=s2.drew
   refine .z 4 s3 rfl<| .B 21 rfl (λ g1=> ?_) λ g1=> ?_
   ·refine .ix 3 s3 (·.ah 0 rfl) rfl<| .lg 0 s3 (·.ah 0 rfl) hx rfl<| .ix 3 s3 (·.ah 0 rfl) rfl<| .lg 0 s3 (·.ah 0 rfl) hy rfl<| .b 0 s3 rfl (.km hE rfl rfl ((hcmp _ _ s3 (x) (y) (hDc _ (aa hx)) (hDc _ (aa hy))).mono λ r1 _ h1=> ?_))
    obtain ⟨z1,rfl,hz1,p1⟩:=h1
    have s4:Sat w0 ([cL v 288 (aA) (cur)]++cs) _:=(s3.aD p1).dm
    have S1:Sat w0 ([_]++cs) _:=s4.sub ((.cons_cons _ (.refl _)))
    refine ⟨S1,?_⟩
    refine .a 0 S1 rfl (λ _ s=> .kq rfl rfl hz1)<| .Z S1 rfl ?_
    exact ⟨⟨congrArg some (congrArg Value.bool (by simp [g1])),rfl,rfl,rfl,rfl,rfl,rfl,trivial⟩,s4⟩
   refine .Z s3 rfl ?_
   exact ⟨⟨congrArg some (congrArg Value.bool (by simp [g1])),rfl,rfl,rfl,rfl,rfl,rfl,trivial⟩,s3⟩
  rintro L' w4 ⟨hw1,s5⟩
  refine .weaken _ hw1<| .ab rfl (λ c2=> ?_) λ c2=> ?_
  ·refine .skip<| .seq<| .block ?_
   have hshp1:=(s5.ah (E:=aA) 0 rfl).iR (by decide)
   refine .lr (λ w'=>Sat w0 ([cL v 288 (aA) (cur)]++cs) w') (λ w'=>Sat w0 ([]++cs) w') 15 (pl [0,1] (.loose 2 (.loose 3 (.loose 4 (pl [5,6,7,8,9] (.loose 10 (.loose 11 (.loose 12 (pl [13,14] (.bar 15 (pl [16,1017] .fin))))))))))) (λ w' h=>h.sub ((.cons _ (.refl _)))) mixed (by kernel_rfl) ?_
   have s6:=s5.drew
   refine .z 2 s6 rfl<| .loose rfl rfl rfl (λ _ s=> .move rfl) s6<| .loose rfl rfl rfl (λ _ s=> .move rfl) s6<| .loose rfl rfl rfl (λ _ s=> .HW (b:=1) rfl rfl (by omega) (by omega)) s6<| .ix 3 s6 (·.ah 0 rfl) rfl<| .lg 0 s6 (·.ah 0 rfl) hy rfl<| .loose rfl rfl rfl (λ _ s=> .move rfl) s6<| .loose rfl rfl rfl (λ _ s=> .move rfl) s6<| .loose rfl rfl rfl (λ _ s=> .fK ig rfl rfl hshp1 (by omega)) s6<| .lg 0 s6 (·.ah 0 rfl) hx rfl<| .ix 0 s6 (·.ah 0 rfl) rfl<| .bar rfl rfl rfl (OpE.ji (a:=y) 0 kg s6 rfl rfl rfl (by (try simp only [length_set]);omega) (by decide) λ _ s7 _=> ?_)
   have S2:Sat w0 ([]++cs) _:=s7.sub ((.cons _ (.refl _)))
   refine ⟨S2,?_⟩
   refine .e rfl (λ _ s=> .fK ig rfl rfl hshp1 (by omega)) S2<| .f rfl (.ji (a:=x) 0 kg s7 rfl rfl rfl (by (try simp only [length_set]);omega) (by decide) λ _ s8 _=> ?_)
   have S3:Sat w0 ([]++cs) _:=s8.sub ((.cons _ (.refl _)))
   refine ⟨S3,?_⟩
   refine .fin<| .U rfl ?_
   exact bc (j-1,(cur.set j y).set (j-1) x) ⟨s8,by omega,by rw [<-hcur,xn c2 hx hy],by simp only [length_set];exact hlc,λ z hz=>hDc z (yf hx hy hz)⟩
  refine .ao ?_
  have hDk1:∀ x∈cP key a l (k+1),D x:=by rw [show cP key a l (k+1)=cur from ((iG c2 hx hy).symm.trans hcur).symm];exact hDc
  have s9:Sat w0 ([cL v 288 (aA) (cP key a l (k+1))]++cs) w4:=by
   have hq:cur=cP key a l (k+1):=(iG c2 hx hy).symm.trans hcur
   rw [<-hq];exact s5
  refine .U rfl ?_
  exact bc (k+1) ⟨s9,.inr (by omega),hDk1⟩
 refine .ao ?_
 show aK _ _ _ _ _ _
 refine bt rfl ?_
 have s10:Sat w0 ([cL v 288 (aA) (cP key a l (b-a-1))]++cs) w1:=by
  have hq:cP key a l k=cP key a l (b-a-1):=by rw [show k=b-a-1 by omega]
  rw [<-hq];exact s1
 exact ⟨rfl,s10⟩
theorem NN (w0 w:World) (cs:List Chunk) (v:Value) (f:Value) (A X0 Y0 B:List It) (a m b:Nat) (hs:Sat w0 ([cL v 288 (aA) (A++X0++Y0++B)]++cs) w) (ha:a=A.length) (hm:m=a+X0.length) (hb:b=m+Y0.length) (hX0:0<X0.length) (hY0:0<Y0.length) (hn:(A++X0++Y0++B).length<=1000000000000):
  CallsV prog 285 [v,(.int .i64 a),(.int .i64 m),(.int .i64 b),f] w λ r w'=>r= .tuple #[]/\Sat w0 ([cL v 288 (aA) (A++Y0++X0++B)]++cs) w':=by
 simp only [length_append] at hn
 refine ae func285 rfl rfl ?_
 refine .Z rfl<| .Z rfl<| .seq<| .block<| .lp [0,2,4] rfl (α:=List It×List It×List It×List It) (λ (P,X,Y,Q)=>[(10,(.int .i64 X.length)),(11,(.int .i64 Y.length))]) (λ (P,X,Y,Q) w'=>Sat w0 ([cL v 288 (aA) (P++X++Y++Q)]++cs) w'/\(P.length+X.length=m)/\(P++Y++X++Q=A++Y0++X0++B)/\(0<X.length)/\(0<Y.length)) (λ (P,X,Y,Q)=>X.length+Y.length) (A,X0,Y0,B) ⟨congrArg some (congrArg (Value.int .i64) (by omega)),congrArg some (congrArg (Value.int .i64) (by omega)),rfl,rfl,rfl,trivial⟩ ⟨hs,by omega,rfl,hX0,hY0⟩ ?_
 rintro ⟨P,X,Y,Q⟩ w1 ⟨s1,hPm,hT,hXp,hYp⟩
 have hT2:=congrArg List.length hT
 simp only [length_append] at hT2
 refine .seq<| .Z rfl<| .ab rfl (λ c1=> ?_) λ c1=> ?_
 ·refine .skip<| .block<| .Z rfl<| .ab rfl (λ c2=> ?_) λ c2=> ?_
  ·refine .h<| .z 7 rfl ?_
   have A1:Sat w0 ([cL v 288 (aA) (P++X++Y++Q)]++([]++cs)) _:=(Sat.order [0] (by decide) s1).cut 1
   refine .c 0 (F5 _ _ _ _ _ (P++X++Y++Q) ((m-X.length)) (m) (Y.length) A1 (by simp only [length_append];omega) (by simp only [length_append];omega) (by simp only [length_append];omega)) rfl λ r1 w2 h1=> ?_
   obtain ⟨rfl,p1⟩:=h1
   have s2:Sat w0 ([cL v 288 (aA) (bF (P++X++Y++Q) (m-X.length) m Y.length)]++cs) _:=p1
   refine .nil ?_
   have s3:Sat w0 ([cL v 288 (aA) (P++Y++X.drop Y.length++X.take Y.length++Q)]++cs) w2:=by
    have hq:bF (P++X++Y++Q) (m-X.length) m Y.length=P++Y++X.drop Y.length++X.take Y.length++Q:=by have h:=gm (a:=m-X.length) (b:=m) (n:=Y.length) P (X.take Y.length) (X.drop Y.length) Y Q (by simp;omega) (by omega) (by simp;omega) (by simp;omega);rw [<-h];simp
    rw [<-hq];exact s2
   refine .U rfl ?_
   exact ⟨(P++Y,X.drop Y.length,X.take Y.length,Q),⟨congrArg some (congrArg (Value.int .i64) (by simp)),congrArg some (congrArg (Value.int .i64) (by simp;omega)),rfl,rfl,rfl,trivial⟩,⟨s3,by simp only [length_append,length_drop];omega,by rw [<-hT];(conv=>rhs;rw [<-take_append_drop Y.length X]);simp,by simp only [length_drop];omega,by simp only [length_take];omega⟩,(show ((X.drop Y.length).length+(X.take Y.length).length)<(X.length+Y.length) from by (try simp only [length_drop,length_take]);omega)⟩
  refine .h<| .z 11 rfl ?_
  have A2:Sat w0 ([cL v 288 (aA) (P++X++Y++Q)]++([]++cs)) _:=(Sat.order [0] (by decide) s1).cut 1
  refine .c 0 (F5 _ _ _ _ _ (P++X++Y++Q) ((m-X.length)) (((m+Y.length)-X.length)) (X.length) A2 (by simp only [length_append];omega) (by simp only [length_append];omega) (by simp only [length_append];omega)) rfl λ r2 w3 h2=> ?_
  obtain ⟨rfl,p2⟩:=h2
  have s4:Sat w0 ([cL v 288 (aA) (bF (P++X++Y++Q) (m-X.length) ((m+Y.length)-X.length) X.length)]++cs) _:=p2
  refine .nil ?_
  have s5:Sat w0 ([cL v 288 (aA) (P++Y.drop (Y.length-X.length)++Y.take (Y.length-X.length)++(X++Q))]++cs) w3:=by
   have hq:bF (P++X++Y++Q) (m-X.length) ((m+Y.length)-X.length) X.length=P++Y.drop (Y.length-X.length)++Y.take (Y.length-X.length)++(X++Q):=by have h:=gm (a:=m-X.length) (b:=m+Y.length-X.length) (n:=X.length) P X (Y.take (Y.length-X.length)) (Y.drop (Y.length-X.length)) Q (by simp;omega) (by omega) (by simp;omega) rfl;rw [show P++Y.drop (Y.length-X.length)++Y.take (Y.length-X.length)++(X++Q)=P++Y.drop (Y.length-X.length)++Y.take (Y.length-X.length)++X++Q by simp,<-h];simp
   rw [<-hq];exact s4
  refine .U rfl ?_
  exact ⟨(P,Y.drop (Y.length-X.length),Y.take (Y.length-X.length),X++Q),⟨congrArg some (congrArg (Value.int .i64) (by simp;omega)),congrArg some (congrArg (Value.int .i64) (by simp)),rfl,rfl,rfl,trivial⟩,⟨s5,by simp only [length_drop];omega,by rw [<-hT];(conv=>rhs;rw [<-take_append_drop (Y.length-X.length) Y]);simp,by simp only [length_drop];omega,by simp only [length_take];omega⟩,(show ((Y.drop (Y.length-X.length)).length+(Y.take (Y.length-X.length)).length)<(X.length+Y.length) from by (try simp only [length_drop,length_take]);omega)⟩
 refine .ao<| .region<| .z 7 rfl ?_
 have A3:Sat w0 ([cL v 288 (aA) (P++X++Y++Q)]++([]++cs)) _:=(Sat.order [0] (by decide) s1).cut 1
 refine .c 0 (F5 _ _ _ _ _ (P++X++Y++Q) ((m-X.length)) (m) (X.length) A3 (by simp only [length_append];omega) (by simp only [length_append];omega) (by simp only [length_append];omega)) rfl λ r3 w4 h3=> ?_
 obtain ⟨rfl,p3⟩:=h3
 have s6:Sat w0 ([cL v 288 (aA) (bF (P++X++Y++Q) (m-X.length) m X.length)]++cs) _:=p3
 refine .nil ?_
 show aK _ _ _ _ _ _
 refine bt rfl ?_
 have s7:Sat w0 ([cL v 288 (aA) (A++Y0++X0++B)]++cs) w4:=by
  have hq:bF (P++X++Y++Q) (m-X.length) m X.length=A++Y0++X0++B:=by have h:=gm (a:=m-X.length) (b:=m) (n:=X.length) P X [] Y Q (by omega) (by omega) (by simp;omega) rfl;rw [<-hT];simpa using h
  rw [<-hq];exact s6
 exact ⟨rfl,s7⟩
theorem AH (w0 w:World) (cs:List Chunk) (v:Value) (key:It->Nat) (D:It->Prop) (fi:FuncId) (cap:Array Value) (hE:Enters prog fi) (hcmp:l8 prog fi cap aA.ag key D w0 cs) (k:Nat) (IH:∀ (w:World) (A L R B:List It) (a m b:Nat),L.length+R.length<k->Sat w0 ([cL v 288 (aA) (A++L++R++B)]++cs) w->a=A.length->m=a+L.length->b=m+R.length->Srt key L->Srt key R->0<L.length->0<R.length->(∀ x∈A++L++R++B,D x)->(A++L++R++B).length<=1000000000000->CallsV prog 283 [v,(.int .i64 (a:Int)),(.int .i64 (m:Int)),(.int .i64 (b:Int)),(.func (.func fi) #[] cap)] w (λ r w'=>r= .tuple #[]/\∃ M,Sat w0 ([cL v 288 (aA) (A++M++B)]++cs) w'/\Srt key M/\Stb key (L++R) M)) (A L R B l:List It) (hl:l=A++L++R++B) (a m b:Nat) (hk:k=L.length+R.length) (hs:Sat w0 ([cL v 288 (aA) (l)]++cs) w) (ha:a=A.length) (hm:m=a+L.length) (hb:b=m+R.length) (hL:Srt key L) (hR:Srt key R) (hL0:0<L.length) (hR0:0<R.length) (hD:∀ x∈l,D x) (hn:l.length<=1000000000000):
  CallsV prog 283 [v,(.int .i64 a),(.int .i64 m),(.int .i64 b),(.func (.func fi) #[] cap)] w λ r w'=>r= .tuple #[]/\∃ M,Sat w0 ([cL v 288 (aA) (A++M++B)]++cs) w'/\Srt key M/\Stb key (L++R) M:=by
 have hbl:b<=l.length:=by rw [hl];simp only [length_append];omega
 refine ae func283 rfl rfl ?_
 refine .seq<| .Z rfl<| .ab rfl (λ c1=> ?_) λ c1=> ?_
 ·refine .seq ?_
  obtain ⟨x0,hLx⟩:∃ x0,L=[x0]:=length_eq_one_iff.1 (by omega)
  have hx0:l[a]? =some x0:=by rw [hl,hLx,ha];simp
  refine .U rfl<| .Z rfl<| .seq<| .block<| .lq [0,1,2,3,4] rfl (α:=Nat×Nat) (λ (i,j)=>[(10,(.int .i64 i)),(11,(.int .i64 j))]) (λ (i,j) w'=>Sat w0 hs.L w'/\(m<=i)/\(i<=j)/\(j<=b)/\(m<i->∀ y,l[i-1]? =some y->key y<key x0)/\(j<b->∀ y,l[j]? =some y->key x0<=key y)) (λ (i,j)=>j-i) (m,b) ⟨hs,Nat.le_refl _,by omega,Nat.le_refl _,λ h=>absurd h (by omega),λ h=>absurd h (by omega)⟩ ?_
  rintro ⟨i,j⟩ w1 ⟨s1,hmi,hij,hjb,hlo,hhi⟩
  refine .seq<| .Z rfl<| .ab rfl (λ c2=> ?_) λ c2=> ?_
  ·refine .skip<| .block<| .Z rfl<| .seq ?_
   obtain ⟨h,hh⟩:∃ q,q=(i+j)/2^1:=⟨_,rfl⟩
   refine .weaken [(0,_),(1,_),(2,_),(3,_),(4,_),(10,_),(11,_),(12,(.int .i64 h)),(31,_),(32,_),(34,_),(35,_),(36,_),(37,_),(38,_),(39,_)] ⟨rfl,rfl,rfl,rfl,rfl,rfl,rfl,congrArg some (by rw [hh]),rfl,rfl,rfl,rfl,rfl,rfl,rfl,rfl,trivial⟩ ?_
   obtain ⟨y,hy⟩:∃ y,(l)[h]? =some y:=⟨_,getElem?_eq_getElem (by omega)⟩
   refine .draw (λ w'=>Sat w0 ([cL v 288 (aA) (l)]++cs) w') (pl [0,1,2,3,4,5,6,7,8,1009,10] .fin) mixed (by kernel_rfl) ?_
   have s2:=s1.drew
   refine .ix 3 s2 (·.ah 0 rfl) rfl<| .lg 0 s2 (·.ah 0 rfl) hy rfl<| .ix 2 s2 (·.ah 0 rfl) rfl<| .lg 0 s2 (·.ah 0 rfl) hx0 rfl<| .f rfl (.km hE rfl rfl ((hcmp _ _ s2 (y) (x0) (hD _ (aa hy)) (hD _ (aa hx0))).mono λ r1 _ h1=> ?_))
   obtain ⟨z1,rfl,hz1,p1⟩:=h1
   have s3:Sat w0 ([cL v 288 (aA) (l)]++cs) _:=(s2.aD p1).dm
   have S1:Sat w0 ([_]++cs) _:=s3.sub ((.cons_cons _ (.refl _)))
   refine ⟨S1,?_⟩
   refine .e rfl (λ _ s=> .kq rfl rfl hz1) S1<| .fin<| .ab rfl (λ c3=> ?_) λ c3=> ?_
   ·refine .U rfl ?_
    exact bc (h+1,j) ⟨s3,by omega,by omega,by omega,λ _ y2 h2=>by rw [Nat.add_sub_cancel,hy] at h2;cases h2;exact c3,hhi⟩
   refine .U rfl ?_
   exact bc (i,h) ⟨s3,by omega,by omega,by omega,hlo,λ _ y2 h2=>by rw [hy] at h2;cases h2;omega⟩
  refine .ao<| .seq<| .Z rfl<| .block<| .lq [0,1,10] rfl (α:=Nat) (λ q=>[(13,(.int .i64 ((a+q):Nat)))]) (λ q w'=>Sat w0 ([cL v 288 (aA) (pA l a q)]++cs) w'/\(q<=(i-1-a))) (λ q=>(i-1-a)-q) 0 ⟨s1,Nat.zero_le _⟩ ?_
  rintro q w3 ⟨s4,hq⟩
  refine .seq<| .Z rfl<| .ab rfl (λ c4=> ?_) λ c4=> ?_
  ·refine .skip<| .seq<| .block ?_
   have hlq:(pA l a q).length=l.length:=tR ..
   obtain ⟨x1,hx1⟩:∃ x1,(pA l a q)[(a+q)]? =some x1:=⟨_,getElem?_eq_getElem (by omega)⟩
   obtain ⟨x2,hx2⟩:∃ x2,(pA l a q)[((a+q)+1)]? =some x2:=⟨_,getElem?_eq_getElem (by omega)⟩
   have hshp1:=(s4.ah (E:=aA) 0 rfl).iR (by decide)
   refine .lr (λ w'=>Sat w0 ([cL v 288 (aA) (pA l a q)]++cs) w') (λ w'=>Sat w0 ([]++cs) w') 15 (pl [0,1] (.loose 2 (.loose 3 (.loose 4 (pl [5,6,7,8,9] (.loose 10 (.loose 11 (.loose 12 (pl [13,14] (.bar 15 (pl [16,1017] .fin))))))))))) (λ w' h=>h.sub ((.cons _ (.refl _)))) mixed (by kernel_rfl) ?_
   have s5:=s4.drew
   refine .z 2 s5 rfl<| .loose rfl rfl rfl (λ _ s=> .move rfl) s5<| .loose rfl rfl rfl (λ _ s=> .move rfl) s5<| .loose rfl rfl rfl (λ _ s=> .vj (b:=1) rfl rfl (by omega)) s5<| .ix 3 s5 (·.ah 0 rfl) rfl<| .lg 0 s5 (·.ah 0 rfl) hx2 rfl<| .loose rfl rfl rfl (λ _ s=> .move rfl) s5<| .loose rfl rfl rfl (λ _ s=> .move rfl) s5<| .loose rfl rfl rfl (λ _ s=> .fK ig rfl rfl hshp1 (by omega)) s5<| .lg 0 s5 (·.ah 0 rfl) hx1 rfl<| .ix 0 s5 (·.ah 0 rfl) rfl<| .bar rfl rfl rfl (OpE.ji (a:=x2) 0 kg s5 rfl rfl rfl (by (try simp only [length_set]);omega) (by decide) λ _ s6 _=> ?_)
   have S2:Sat w0 ([]++cs) _:=s6.sub ((.cons _ (.refl _)))
   refine ⟨S2,?_⟩
   refine .e rfl (λ _ s=> .fK ig rfl rfl hshp1 (by omega)) S2<| .f rfl (.ji (a:=x1) 0 kg s6 rfl rfl rfl (by (try simp only [length_set]);omega) (by decide) λ w5 s7 _=> ?_)
   have S3:Sat w0 ([]++cs) _:=s7.sub ((.cons _ (.refl _)))
   refine ⟨S3,?_⟩
   refine .fin ?_
   have s8:Sat w0 ([cL v 288 (aA) (pA l a (q+1))]++cs) w5:=by
    have hq:((pA l a q).set (a+q) x2).set ((a+q)+1) x1=pA l a (q+1):=by rw [pA,nR hx1 hx2]
    rw [<-hq];exact s7
   refine .U rfl ?_
   exact ⟨q+1,⟨congrArg some (congrArg (Value.int .i64) (by omega)),rfl,rfl,rfl,trivial⟩,⟨s8,by omega⟩,by omega⟩
  refine .ao<| .ret ?_
  show aK _ _ _ _ _ _
  refine bt rfl ?_
  obtain ⟨M,hM,hMs,hMt⟩:=zk (key:=key) (l:=l) (A:=A) (B:=B) (R:=R) (x:=x0) (by rw [hl,hLx]) ha (i:=i) (by omega) hb (by omega) (by omega) hlo (by rw [show j=i by omega] at hhi;exact hhi) hR
  have s9:Sat w0 ([cL v 288 (aA) (A++M++B)]++cs) w3:=by
   have hq:pA l a q=A++M++B:=by rw [show q=i-1-a by omega,hM]
   rw [<-hq];exact s4
  exact ⟨rfl,M,s9,hMs,by rw [hLx];exact hMt⟩
 refine .skip<| .seq<| .Z rfl<| .ab rfl (λ c5=> ?_) λ c5=> ?_
 ·refine .seq ?_
  obtain ⟨x0,hRx⟩:∃ x0,R=[x0]:=length_eq_one_iff.1 (by omega)
  have hx0:l[m]? =some x0:=by rw [hl,hRx,hm,ha,<-length_append];simp
  refine .U rfl<| .Z rfl<| .seq<| .block<| .lq [0,1,2,3,4] rfl (α:=Nat×Nat) (λ (i,j)=>[(14,(.int .i64 i)),(15,(.int .i64 j))]) (λ (i,j) w'=>Sat w0 hs.L w'/\(a<=i)/\(i<=j)/\(j<=m)/\(a<i->∀ y,l[i-1]? =some y->key y<=key x0)/\(j<m->∀ y,l[j]? =some y->key x0<key y)) (λ (i,j)=>j-i) (a,m) ⟨hs,Nat.le_refl _,by omega,Nat.le_refl _,λ h=>absurd h (by omega),λ h=>absurd h (by omega)⟩ ?_
  rintro ⟨i,j⟩ w6 ⟨s10,hmi,hij,hjb,hlo,hhi⟩
  refine .seq<| .Z rfl<| .ab rfl (λ c6=> ?_) λ c6=> ?_
  ·refine .skip<| .block<| .Z rfl<| .seq ?_
   obtain ⟨h,hh⟩:∃ q,q=(i+j)/2^1:=⟨_,rfl⟩
   refine .weaken [(0,_),(1,_),(2,_),(3,_),(4,_),(14,_),(15,_),(16,(.int .i64 h)),(83,_),(84,_),(86,_),(87,_),(88,_),(89,_),(90,_),(91,_)] ⟨rfl,rfl,rfl,rfl,rfl,rfl,rfl,congrArg some (by rw [hh]),rfl,rfl,rfl,rfl,rfl,rfl,rfl,rfl,trivial⟩ ?_
   obtain ⟨y,hy⟩:∃ y,(l)[h]? =some y:=⟨_,getElem?_eq_getElem (by omega)⟩
   refine .draw (λ w'=>Sat w0 ([cL v 288 (aA) (l)]++cs) w') (pl [0,1,2,3,4,5,6,7,8,1009,10,11] .fin) mixed (by kernel_rfl) ?_
   have s11:=s10.drew
   refine .ix 3 s11 (·.ah 0 rfl) rfl<| .lg 0 s11 (·.ah 0 rfl) hx0 rfl<| .ix 2 s11 (·.ah 0 rfl) rfl<| .lg 0 s11 (·.ah 0 rfl) hy rfl<| .f rfl (.km hE rfl rfl ((hcmp _ _ s11 (x0) (y) (hD _ (aa hx0)) (hD _ (aa hy))).mono λ r2 _ h_2=> ?_))
   obtain ⟨z2,rfl,hz2,p2⟩:=h_2
   have s12:Sat w0 ([cL v 288 (aA) (l)]++cs) _:=(s11.aD p2).dm
   have S4:Sat w0 ([_]++cs) _:=s12.sub ((.cons_cons _ (.refl _)))
   refine ⟨S4,?_⟩
   refine .e rfl (λ _ s=> .kq rfl rfl hz2) S4<| .e rfl (λ _ s=> .jz rfl) S4<| .fin<| .ab rfl (λ c7=> ?_) λ c7=> ?_
   ·refine .U rfl ?_
    exact bc (h+1,j) ⟨s12,by omega,by omega,by omega,λ _ y2 h2=>by rw [Nat.add_sub_cancel,hy] at h2;cases h2;omega,hhi⟩
   refine .U rfl ?_
   exact bc (i,h) ⟨s12,by omega,by omega,by omega,hlo,λ _ y2 h2=>by rw [hy] at h2;cases h2;omega⟩
  refine .ao<| .seq<| .Z rfl<| .block<| .lq [0,14] rfl (α:=Nat) (λ q=>[(17,(.int .i64 ((m-q):Nat)))]) (λ q w'=>Sat w0 ([cL v 288 (aA) (pB l m q)]++cs) w'/\(q<=(m-i))) (λ q=>(m-i)-q) 0 ⟨s10,Nat.zero_le _⟩ ?_
  rintro q w8 ⟨s13,hq⟩
  refine .seq<| .Z rfl<| .ab rfl (λ c8=> ?_) λ c8=> ?_
  ·refine .skip<| .seq<| .block ?_
   have hlq:(pB l m q).length=l.length:=tS ..
   obtain ⟨x1,hx1⟩:∃ x1,(pB l m q)[(m-q)]? =some x1:=⟨_,getElem?_eq_getElem (by omega)⟩
   obtain ⟨x2,hx2⟩:∃ x2,(pB l m q)[((m-q)-1)]? =some x2:=⟨_,getElem?_eq_getElem (by omega)⟩
   have hshp2:=(s13.ah (E:=aA) 0 rfl).iR (by decide)
   refine .lr (λ w'=>Sat w0 ([cL v 288 (aA) (pB l m q)]++cs) w') (λ w'=>Sat w0 ([]++cs) w') 15 (pl [0,1] (.loose 2 (.loose 3 (.loose 4 (pl [5,6,7,8,9] (.loose 10 (.loose 11 (.loose 12 (pl [13,14] (.bar 15 (pl [16,1017] .fin))))))))))) (λ w' h=>h.sub ((.cons _ (.refl _)))) mixed (by kernel_rfl) ?_
   have s14:=s13.drew
   refine .z 2 s14 rfl<| .loose rfl rfl rfl (λ _ s=> .move rfl) s14<| .loose rfl rfl rfl (λ _ s=> .move rfl) s14<| .loose rfl rfl rfl (λ _ s=> .HW (b:=1) rfl rfl (by omega) (by omega)) s14<| .ix 3 s14 (·.ah 0 rfl) rfl<| .lg 0 s14 (·.ah 0 rfl) hx2 rfl<| .loose rfl rfl rfl (λ _ s=> .move rfl) s14<| .loose rfl rfl rfl (λ _ s=> .move rfl) s14<| .loose rfl rfl rfl (λ _ s=> .fK ig rfl rfl hshp2 (by omega)) s14<| .lg 0 s14 (·.ah 0 rfl) hx1 rfl<| .ix 0 s14 (·.ah 0 rfl) rfl<| .bar rfl rfl rfl (OpE.ji (a:=x2) 0 kg s14 rfl rfl rfl (by (try simp only [length_set]);omega) (by decide) λ _ s15 _=> ?_)
   have S5:Sat w0 ([]++cs) _:=s15.sub ((.cons _ (.refl _)))
   refine ⟨S5,?_⟩
   refine .e rfl (λ _ s=> .fK ig rfl rfl hshp2 (by omega)) S5<| .f rfl (.ji (a:=x1) 0 kg s15 rfl rfl rfl (by (try simp only [length_set]);omega) (by decide) λ w10 s16 _=> ?_)
   have S6:Sat w0 ([]++cs) _:=s16.sub ((.cons _ (.refl _)))
   refine ⟨S6,?_⟩
   refine .fin ?_
   have s17:Sat w0 ([cL v 288 (aA) (pB l m (q+1))]++cs) w10:=by
    have hq:((pB l m q).set (m-q) x2).set ((m-q)-1) x1=pB l m (q+1):=by rw [pB,nR hx1 hx2]
    rw [<-hq];exact s16
   refine .U rfl ?_
   exact ⟨q+1,⟨congrArg some (congrArg (Value.int .i64) (by omega)),rfl,rfl,trivial⟩,⟨s17,by omega⟩,by omega⟩
  refine .ao<| .ret ?_
  show aK _ _ _ _ _ _
  refine bt rfl ?_
  obtain ⟨M,hM,hMs,hMt⟩:=vY (key:=key) (l:=l) (A:=A) (B:=B) (L:=L) (x:=x0) (by rw [hl,hRx]) ha (i:=i) hm (by omega) (by omega) hlo (by rw [show j=i by omega] at hhi;exact hhi) hL
  have s18:Sat w0 ([cL v 288 (aA) (A++M++B)]++cs) w8:=by
   have hq:pB l m q=A++M++B:=by rw [show q=m-i by omega,hM]
   rw [<-hq];exact s13
  exact ⟨rfl,M,s18,hMs,by rw [hRx];exact hMt⟩
 refine .skip<| .Z rfl<| .seq ?_
 obtain ⟨mid,hmid⟩:∃ q,q=(a+b)/2^1:=⟨_,rfl⟩
 refine .weaken [(0,_),(1,_),(2,_),(3,_),(4,_),(18,(.int .i64 mid)),(25,_),(26,_),(27,_),(77,_),(78,_),(79,_),(129,_),(130,_),(131,_),(132,_),(133,_),(134,_)] ⟨rfl,rfl,rfl,rfl,rfl,congrArg some (by rw [hmid]),rfl,rfl,rfl,rfl,rfl,rfl,rfl,rfl,rfl,rfl,rfl,rfl,trivial⟩<| .U rfl<| .Z rfl<| .jn [0,1,2,3,4,18,19] rfl (λ K L' w'=>∃ (st0:Nat) (r0:Nat),Weak ([(20,(.int .i64 st0)),(21,(.int .i64 r0))]++K) L'/\Sat w0 hs.L w'/\(a<=st0)/\(st0<=r0)/\(r0<=mid)/\(r0<=m)/\(mid+m-st0<=b)/\(st0=a\/mid+m-st0=b)/\(r0=mid\/r0=m)) ?_ ?_
 ·refine .Z rfl<| .ab rfl (λ c9=> ?_) λ c9=> ?_
  ·refine .Z rfl<| .U rfl ?_
   exact ⟨((mid+m)-b),mid,(wk rfl),hs,by omega,by omega,by omega,by omega,by omega,.inr (by omega),.inl rfl⟩
  refine .Z rfl<| .U rfl ?_
  exact ⟨a,m,(wk rfl),hs,by omega,by omega,by omega,by omega,by omega,.inl rfl,.inr rfl⟩
 rintro L' w11 ⟨st0,r0,hw1,s19,has0,hsr0,hrm0,hrm1,hnb0,hst0,hr0⟩
 refine .weaken _ hw1<| .Z rfl<| .seq<| .block<| .lq [0,1,2,3,4,18,19,22] rfl (α:=Nat×Nat) (λ (st,r)=>[(20,(.int .i64 st)),(21,(.int .i64 r))]) (λ (st,r) w'=>Sat w0 s19.L w'/\(st0<=st)/\(st<=r)/\(r<=r0)/\(st0<st->∀ y z,l[mid+m-1-(st-1)]? =some y->l[st-1]? =some z->key z<=key y)/\(r<r0->∀ y z,l[mid+m-1-r]? =some y->l[r]? =some z->key y<key z)) (λ (st,r)=>r-st) (st0,r0) ⟨s19,Nat.le_refl _,hsr0,Nat.le_refl _,λ h=>absurd h (by omega),λ h=>absurd h (by omega)⟩ ?_
 rintro ⟨st,r⟩ w12 ⟨s20,hss,hsr,hrr,hlo,hhi⟩
 refine .seq<| .Z rfl<| .ab rfl (λ c10=> ?_) λ c10=> ?_
 ·refine .skip<| .block<| .Z rfl<| .seq ?_
  obtain ⟨h,hh⟩:∃ q,q=(st+r)/2^1:=⟨_,rfl⟩
  refine .weaken [(0,_),(1,_),(2,_),(3,_),(4,_),(18,_),(19,_),(20,_),(21,_),(22,_),(23,(.int .i64 h)),(149,_),(150,_),(152,_),(153,_),(154,_),(155,_),(156,_),(157,_)] ⟨rfl,rfl,rfl,rfl,rfl,rfl,rfl,rfl,rfl,rfl,congrArg some (by rw [hh]),rfl,rfl,rfl,rfl,rfl,rfl,rfl,rfl,trivial⟩ ?_
  obtain ⟨y,hy⟩:∃ y,(l)[(((mid+m)-1)-h)]? =some y:=⟨_,getElem?_eq_getElem (by omega)⟩
  obtain ⟨z,hz⟩:∃ z,(l)[h]? =some z:=⟨_,getElem?_eq_getElem (by omega)⟩
  refine .draw (λ w'=>Sat w0 ([cL v 288 (aA) (l)]++cs) w') (pl [0,1,2,3,4,5,6,7,8,9,10,1011,12,13] .fin) mixed (by kernel_rfl) ?_
  have s21:=s20.drew
  refine .ix 5 s21 (·.ah 0 rfl) rfl<| .lg 0 s21 (·.ah 0 rfl) hy rfl<| .ix 2 s21 (·.ah 0 rfl) rfl<| .lg 0 s21 (·.ah 0 rfl) hz rfl<| .f rfl (.km hE rfl rfl ((hcmp _ _ s21 (y) (z) (hD _ (aa hy)) (hD _ (aa hz))).mono λ r3 _ h3=> ?_))
  obtain ⟨z3,rfl,hz3,p3⟩:=h3
  have s22:Sat w0 ([cL v 288 (aA) (l)]++cs) _:=(s21.aD p3).dm
  have S7:Sat w0 ([_]++cs) _:=s22.sub ((.cons_cons _ (.refl _)))
  refine ⟨S7,?_⟩
  refine .e rfl (λ _ s=> .kq rfl rfl hz3) S7<| .e rfl (λ _ s=> .jz rfl) S7<| .fin<| .ab rfl (λ c11=> ?_) λ c11=> ?_
  ·refine .U rfl ?_
   exact bc (h+1,r) ⟨s22,by omega,by omega,by omega,λ _ y' z' hy' hz'=>by rw [Nat.add_sub_cancel] at hy' hz';rw [hy] at hy';rw [hz] at hz';cases hy';cases hz';omega,hhi⟩
  refine .U rfl ?_
  exact bc (st,h) ⟨s22,by omega,by omega,by omega,hlo,λ _ y' z' hy' hz'=>by rw [hy] at hy';rw [hz] at hz';cases hy';cases hz';omega⟩
 refine .ao<| .Z rfl ?_
 obtain ⟨L1,L2,R1,R2,hLs,hRs,hL1,hL2,hR1,hR2,hne,hle⟩:=CG (key:=key) hl ha hm hb hL hR (by omega) (by omega) (by omega) (by omega) hst0 hr0 hlo (by rw [show r=st by omega] at hhi;exact hhi) (by omega) (by omega)
 have hLx:L.length=L1.length+L2.length:=by rw [hLs,length_append]
 have hRx:R.length=R1.length+R2.length:=by rw [hRs,length_append]
 have hll:l.length=A.length+L.length+R.length+B.length:=by rw [hl];simp only [length_append]
 have hs1:Srt key L1:=by rw [hLs] at hL;exact hL.left
 have hs2:Srt key L2:=by rw [hLs] at hL;exact hL.right
 have hs3:Srt key R1:=by rw [hRs] at hR;exact hR.left
 have hs4:Srt key R2:=by rw [hRs] at hR;exact hR.right
 have hp0:∀ x,x∈A++L1++R1++(L2++R2++B)->D x:=λ x hx=>hD x (by rw [hl,hLs,hRs];simp only [mem_append] at hx⊢;grind)
 refine .jn [0,1,2,3,4,18,20,24] rfl (λ K L' w'=>Weak K L'/\Sat w0 ([cL v 288 (aA) (A++L1++R1++(L2++R2++B))]++cs) w') ?_ ?_
 ·refine .seq<| .bH 185 ((st<m)/\(m<((mid+m)-st))) ?_ ?_
  ·refine .z 4 rfl<| .B 181 rfl (λ g1=> ?_) λ g1=> ?_
   ·refine .M rfl (by simp [g1])
   refine .M rfl (by simp [g1])
  refine .ab rfl (λ c12=> ?_) λ c12=> ?_
  ·have s23:Sat w0 ([cL v 288 (aA) ((A++L1)++L2++R1++(R2++B))]++cs) w12:=by
    have hq:l=(A++L1)++L2++R1++(R2++B):=by rw [hl,hLs,hRs];simp
    rw [<-hq];exact s20
   refine .region<| .z 5 rfl ?_
   have A1:Sat w0 ([cL v 288 (aA) ((A++L1)++L2++R1++(R2++B))]++([]++cs)) _:=(Sat.order [0] (by decide) s23).cut 1
   refine .c 0 (NN _ _ _ _ _ (A++L1) (L2) (R1) (R2++B) (st) (m) (((mid+m)-st)) A1 (by rw [length_append];omega) (by omega) (by omega) (by omega) (by omega) (by simp only [length_append];omega)) rfl λ r4 w14 h4=> ?_
   obtain ⟨rfl,p4⟩:=h4
   have s24:Sat w0 ([cL v 288 (aA) ((A++L1)++R1++L2++(R2++B))]++cs) _:=p4
   refine .nil ?_
   have s25:Sat w0 ([cL v 288 (aA) (A++L1++R1++(L2++R2++B))]++cs) w14:=by
    have hq:(A++L1)++R1++L2++(R2++B)=A++L1++R1++(L2++R2++B):=by simp
    rw [<-hq];exact s24
   exact ⟨(wk rfl),s25⟩
  refine .skip ?_
  have s26:Sat w0 ([cL v 288 (aA) (A++L1++R1++(L2++R2++B))]++cs) w12:=by
   have hq:l=A++L1++R1++(L2++R2++B):=by rw [hl,hLs,hRs];(rcases (show L2.length=0\/R1.length=0 by omega) with h0|h0)<;>simp [eq_nil_of_length_eq_zero h0]
   rw [<-hq];exact s20
  exact ⟨(wk rfl),s26⟩
 rintro L' w15 ⟨hw2,s27⟩
 refine .weaken _ hw2<| .jn [0,1,2,3,4,18,20,24] rfl (λ K L' w'=>∃ (M1:List It),Weak K L'/\Sat w0 ([cL v 288 (aA) (A++M1++(L2++R2++B))]++cs) w'/\(Srt key M1)/\(Stb key (L1++R1) M1)) ?_ ?_
 ·refine .seq<| .bH 199 ((a<st)/\(st<mid)) ?_ ?_
  ·refine .z 4 rfl<| .B 195 rfl (λ g2=> ?_) λ g2=> ?_
   ·refine .M rfl (by simp [g2])
   refine .M rfl (by simp [g2])
  refine .ab rfl (λ c13=> ?_) λ c13=> ?_
  ·refine .region<| .z 5 rfl ?_
   have A2:Sat w0 ([cL v 288 (aA) (A++L1++R1++(L2++R2++B))]++([]++cs)) _:=(Sat.order [0] (by decide) s27).cut 1
   refine .c 0 (IH _ (A) (L1) (R1) (L2++R2++B) (a) (st) (mid) (by omega) (A2) (ha) (by omega) (by omega) (hs1) (hs3) (by omega) (by omega) (hp0) (by simp only [length_append];omega)) rfl λ r5 _ h5=> ?_
   obtain ⟨rfl,M1,p5,hM1,hS1⟩:=h5
   have s28:Sat w0 ([cL v 288 (aA) (A++M1++(L2++R2++B))]++cs) _:=p5
   refine .nil ?_
   exact ⟨M1,(wk rfl),s28,hM1,hS1⟩
  refine .skip ?_
  have s29:Sat w0 ([cL v 288 (aA) (A++(L1++R1)++(L2++R2++B))]++cs) w15:=by
   have hq:A++L1++R1++(L2++R2++B)=A++(L1++R1)++(L2++R2++B):=by simp
   rw [<-hq];exact s27
  exact ⟨L1++R1,(wk rfl),s29,Srt.or (by omega) hs1 hs3,Stb.refl _⟩
 rintro L' w17 ⟨M1,hw3,s30,hM1,hS1⟩
 refine .weaken _ hw3<| .seq<| .bH 213 ((mid<((mid+m)-st))/\(((mid+m)-st)<b)) ?_ ?_
 ·refine .z 4 rfl<| .B 209 rfl (λ g3=> ?_) λ g3=> ?_
  ·refine .M rfl (by simp [g3])
  refine .M rfl (by simp [g3])
 refine .ab rfl (λ c14=> ?_) λ c14=> ?_
 ·have s31:Sat w0 ([cL v 288 (aA) ((A++M1)++L2++R2++B)]++cs) w17:=by
   have hq:A++M1++(L2++R2++B)=(A++M1)++L2++R2++B:=by simp
   rw [<-hq];exact s30
  refine .region<| .z 5 rfl ?_
  have A3:Sat w0 ([cL v 288 (aA) ((A++M1)++L2++R2++B)]++([]++cs)) _:=(Sat.order [0] (by decide) s31).cut 1
  refine .c 0 (IH _ (A++M1) (L2) (R2) (B) (mid) (((mid+m)-st)) (b) (by omega) (A3) (by have:=hS1.length;simp only [length_append] at this⊢;omega) (by omega) (by omega) (hs2) (hs4) (by omega) (by omega) (λ x hx=>hp0 x (by have:=hS1.mem (x:=x);simp only [mem_append] at hx this⊢;grind)) (by have:=hS1.length;simp only [length_append] at this⊢;omega)) rfl λ r6 w18 h6=> ?_
  obtain ⟨rfl,M2,p6,hM2,hS2⟩:=h6
  have s32:Sat w0 ([cL v 288 (aA) ((A++M1)++M2++B)]++cs) _:=p6
  refine .nil ?_
  show aK _ _ _ _ _ _
  refine bt rfl ?_
  obtain ⟨hf1,hf2⟩:=rJ hLs hRs hne hle hM1 hM2 hS1 hS2
  have s33:Sat w0 ([cL v 288 (aA) (A++(M1++M2)++B)]++cs) w18:=by
   have hq:(A++M1)++M2++B=A++(M1++M2)++B:=by simp
   rw [<-hq];exact s32
  exact ⟨rfl,_,s33,hf1,hf2⟩
 refine .skip ?_
 show aK _ _ _ _ _ _
 refine bt rfl ?_
 obtain ⟨hf1,hf2⟩:=rJ hLs hRs hne hle hM1 (Srt.or (by omega) hs2 hs4) hS1 (Stb.refl _)
 have s34:Sat w0 ([cL v 288 (aA) (A++(M1++(L2++R2))++B)]++cs) w17:=by
  have hq:A++M1++(L2++R2++B)=A++(M1++(L2++R2))++B:=by simp
  rw [<-hq];exact s30
 exact ⟨rfl,_,s34,hf1,hf2⟩
theorem KU (w0 w:World) (cs:List Chunk) (v:Value) (key:It->Nat) (D:It->Prop) (fi:FuncId) (cap:Array Value) (hE:Enters prog fi) (hcmp:l8 prog fi cap aA.ag key D w0 cs) (A L R B:List It) (a m b:Nat) (hs:Sat w0 ([cL v 288 (aA) (A++L++R++B)]++cs) w) (ha:a=A.length) (hm:m=a+L.length) (hb:b=m+R.length) (hL:Srt key L) (hR:Srt key R) (hL0:0<L.length) (hR0:0<R.length) (hD:∀ x∈A++L++R++B,D x) (hn:(A++L++R++B).length<=1000000000000):
  CallsV prog 283 [v,(.int .i64 (a:Int)),(.int .i64 (m:Int)),(.int .i64 (b:Int)),(.func (.func fi) #[] cap)] w (λ r w'=>r= .tuple #[]/\∃ M,Sat w0 ([cL v 288 (aA) (A++M++B)]++cs) w'/\Srt key M/\Stb key (L++R) M):=by
 suffices H:∀ k (w:World) (A L R B:List It) (a m b:Nat),L.length+R.length=k->Sat w0 ([cL v 288 (aA) (A++L++R++B)]++cs) w->a=A.length->m=a+L.length->b=m+R.length->Srt key L->Srt key R->0<L.length->0<R.length->(∀ x∈A++L++R++B,D x)->(A++L++R++B).length<=1000000000000->CallsV prog 283 [v,(.int .i64 (a:Int)),(.int .i64 (m:Int)),(.int .i64 (b:Int)),(.func (.func fi) #[] cap)] w (λ r w'=>r= .tuple #[]/\∃ M,Sat w0 ([cL v 288 (aA) (A++M++B)]++cs) w'/\Srt key M/\Stb key (L++R) M) from
  H _ w A L R B a m b rfl hs ha hm hb hL hR hL0 hR0 hD hn
 intro k
 induction k using Nat.strongRecOn with
 |_ k ih=>
  intro w A L R B a m b hk hs ha hm hb hL hR hL0 hR0 hD hn
  exact AH w0 w cs v key D fi cap hE hcmp k (λ w A L R B a m b h1=>ih _ h1 w A L R B a m b rfl) A L R B _ rfl a m b hk.symm hs ha hm hb hL hR hL0 hR0 hD hn
theorem NO (w0 w:World) (cs:List Chunk) (v:Value) (l:List It) (n:Nat) (key:It->Nat) (D:It->Prop) (fi:FuncId) (cap:Array Value) (hE:Enters prog fi) (hcmp:l8 prog fi cap aA.ag key D w0 cs) (hs:Sat w0 ([cL v 288 (aA) (l)]++cs) w) (hD:∀ x∈l,D x) (hnl:n=l.length) (hn:l.length<=1000000000000):
  CallsV prog 276 [v,(.int .i64 n),(.func (.func fi) #[] cap)] w λ r w'=>r= .tuple #[]/\Sat w0 ([cL v 288 (aA) (dJ key l)]++cs) w':=by
 refine ae func276 rfl rfl ?_
 refine .Z rfl<| .Z rfl<| .seq<| .block<| .lq [0,1,2,6] rfl (α:=List It×List It) (λ (Pre,Suf)=>[(7,(.int .i64 Pre.length)),(8,(.int .i64 ((Pre.length+20):Nat)))]) (λ (Pre,Suf) w'=>Sat w0 ([cL v 288 (aA) (Pre++Suf)]++cs) w'/\(Full key 20 Pre)/\(Stb key l (Pre++Suf))) (λ (Pre,Suf)=>Suf.length) ([],l) ⟨hs,.nil,Stb.refl _⟩ ?_
 rintro ⟨Pre,Suf⟩ w1 ⟨s1,hF,hT⟩
 have hlT:=hT.length
 rw [length_append] at hlT
 refine .seq<| .Z rfl<| .ab rfl (λ c1=> ?_) λ c1=> ?_
 ·refine .skip<| .block<| .h<| .z 4 rfl ?_
  have A1:Sat w0 ([cL v 288 (aA) (Pre++Suf)]++([]++cs)) _:=(Sat.order [0] (by decide) s1).cut 1
  refine .c 0 (KT w0 _ cs v (Pre++Suf) (Pre.length) ((Pre.length+20)) key D fi cap hE hcmp A1 (λ x hx=>hD x (hT.mem.2 hx)) (by simp) (by rw [length_append];omega) (by rw [length_append];omega)) rfl λ r1 w2 h1=> ?_
  obtain ⟨rfl,p1⟩:=h1
  have s2:Sat w0 ([cL v 288 (aA) (cP key Pre.length (Pre++Suf) ((Pre.length+20)-Pre.length-1))]++cs) _:=p1
  refine .nil ?_
  obtain ⟨S',hS1,hS2,hS3,hS4⟩:=zl hF hT (by omega)
  have s3:Sat w0 ([cL v 288 (aA) (Pre++S'++Suf.drop 20)]++cs) w2:=by
   have hq:cP key Pre.length (Pre++Suf) ((Pre.length+20)-Pre.length-1)=Pre++S'++Suf.drop 20:=hS1
   rw [<-hq];exact s2
  refine .Z rfl<| .U rfl ?_
  exact ⟨(Pre++S',Suf.drop 20),⟨congrArg some (congrArg (Value.int .i64) (by simp [hS4])),congrArg some (congrArg (Value.int .i64) (by simp [hS4])),rfl,rfl,rfl,rfl,trivial⟩,⟨s3,hS2,hS3⟩,(show ((Suf.drop 20).length)<(Suf.length) from by simp only [length_drop];omega)⟩
 refine .ao<| .h<| .z 4 rfl ?_
 have A2:Sat w0 ([cL v 288 (aA) (Pre++Suf)]++([]++cs)) _:=(Sat.order [0] (by decide) s1).cut 1
 refine .c 0 (KT w0 _ cs v (Pre++Suf) (Pre.length) (n) key D fi cap hE hcmp A2 (λ x hx=>hD x (hT.mem.2 hx)) (by simp) (by rw [length_append];omega) (by rw [length_append];omega)) rfl λ r2 _ h2=> ?_
 obtain ⟨rfl,p2⟩:=h2
 have s4:Sat w0 ([cL v 288 (aA) (cP key Pre.length (Pre++Suf) (n-Pre.length-1))]++cs) _:=p2
 refine .nil ?_
 obtain ⟨hB0,hT0⟩:=CH (n:=n) hF hT (by omega) hnl
 refine .block<| .lq [0,1,2] rfl (α:=Nat×List It) (λ (bs,cur)=>[(6,(.int .i64 bs))]) (λ (bs,cur) w'=>Sat w0 ([cL v 288 (aA) (cur)]++cs) w'/\(0<bs)/\(bs<=2000000000020)/\(Blks key bs cur)/\(Stb key l cur)) (λ (bs,cur)=>n-bs) (20,cP key Pre.length (Pre++Suf) (n-Pre.length-1)) ⟨s4,by omega,by omega,hB0,hT0⟩ ?_
 rintro ⟨bs,cur⟩ w4 ⟨s5,hbs,hbs2,hB,hTc⟩
 refine .seq<| .Z rfl<| .ab rfl (λ c2=> ?_) λ c2=> ?_
 ·refine .skip<| .block<| .Z rfl<| .seq<| .block<| .lp [0,1,2,6] rfl (α:=List It×List It) (λ (Pre,Suf)=>[(7,(.int .i64 Pre.length)),(8,(.int .i64 ((Pre.length+2*bs):Nat)))]) (λ (Pre,Suf) w'=>Sat w0 ([cL v 288 (aA) (Pre++Suf)]++cs) w'/\(Full key (2*bs) Pre)/\(Blks key bs Suf)/\(Stb key l (Pre++Suf))) (λ (Pre,Suf)=>Suf.length) ([],cur) ⟨rfl,congrArg some (congrArg (Value.int .i64) (by simp)),rfl,rfl,rfl,rfl,trivial⟩ ⟨s5,.nil,hB,hTc⟩ ?_
  rintro ⟨Pre,Suf⟩ w5 ⟨s6,hF,hBs,hTi⟩
  have hlT:=hTi.length
  rw [length_append] at hlT
  refine .seq<| .Z rfl<| .ab rfl (λ c3=> ?_) λ c3=> ?_
  ·refine .skip<| .block<| .seq ?_
   have hlT:=hTi.length
   rw [length_append] at hlT
   obtain ⟨L,R,B,hSuf,hLl,hRl,hLs,hRs,hBB⟩:=hBs.two (by omega) hbs
   have s7:Sat w0 ([cL v 288 (aA) (Pre++L++R++B)]++cs) w5:=by
    have hq:Pre++Suf=Pre++L++R++B:=by rw [hSuf];simp
    rw [<-hq];exact s6
   refine .region<| .z 7 rfl ?_
   have A3:Sat w0 ([cL v 288 (aA) (Pre++L++R++B)]++([]++cs)) _:=(Sat.order [0] (by decide) s7).cut 1
   refine .c 0 (KU w0 _ cs v key D fi cap hE hcmp (Pre) (L) (R) (B) (Pre.length) ((Pre.length+bs)) ((Pre.length+2*bs)) (A3) (rfl) (by omega) (by omega) (hLs) (hRs) (by omega) (by omega) (λ x hx=>hD x (hTi.mem.2 (by rw [hSuf];simpa using hx))) (by have h:=congrArg List.length hSuf;simp only [length_append] at h⊢;omega)) rfl λ r3 _ h3=> ?_
   obtain ⟨rfl,M,p3,hM,hS⟩:=h3
   have s8:Sat w0 ([cL v 288 (aA) (Pre++M++B)]++cs) _:=p3
   refine .nil ?_
   obtain ⟨hm1,hm2,hm3⟩:=zm hF hTi hSuf hLl hRl hM hS
   refine .Z rfl<| .U rfl ?_
   exact ⟨(Pre++M,B),⟨congrArg some (congrArg (Value.int .i64) (by simp [hm3])),congrArg some (congrArg (Value.int .i64) (by simp [hm3])),rfl,rfl,rfl,rfl,trivial⟩,⟨s8,hm1,hBB,hm2⟩,(show ((B).length)<(Suf.length) from by rw [hSuf];simp only [length_append];omega)⟩
  refine .ao<| .seq<| .Z rfl<| .Z rfl<| .ab rfl (λ c4=> ?_) λ c4=> ?_
  ·obtain ⟨L,R,hSuf,hLl,hLs,hRs⟩:=hBs.split (by omega) (by omega)
   have hSufl:Suf.length=L.length+R.length:=by rw [hSuf,length_append]
   have s9:Sat w0 ([cL v 288 (aA) (Pre++L++R++[])]++cs) w5:=by
    have hq:Pre++Suf=Pre++L++R++[]:=by rw [hSuf];simp
    rw [<-hq];exact s6
   refine .region<| .z 5 rfl ?_
   have A4:Sat w0 ([cL v 288 (aA) (Pre++L++R++[])]++([]++cs)) _:=(Sat.order [0] (by decide) s9).cut 1
   refine .c 0 (KU w0 _ cs v key D fi cap hE hcmp (Pre) (L) (R) ([]) (Pre.length) ((Pre.length+bs)) (n) (A4) (rfl) (by omega) (by omega) (hLs) (hRs) (by omega) (by omega) (λ x hx=>hD x (hTi.mem.2 (by rw [hSuf];simpa using hx))) (by simp only [length_append,length_nil];omega)) rfl λ r4 _ h4=> ?_
   obtain ⟨rfl,M,p4,hM,hS⟩:=h4
   have s10:Sat w0 ([cL v 288 (aA) (Pre++M++([]))]++cs) _:=p4
   refine .nil<| .U rfl ?_
   exact bc (bs*2,Pre++M++[]) ⟨s10,by omega,by omega,(rK hF hTi hSuf (by omega) hM hS).1,(rK hF hTi hSuf (by omega) hM hS).2⟩
  refine .skip<| .U rfl ?_
  exact bc (bs*2,Pre++Suf) ⟨s6,by omega,by omega,zn hF hBs (by omega),hTi⟩
 refine .ao ?_
 show aK _ _ _ _ _ _
 refine bt rfl ?_
 have s11:Sat w0 ([cL v 288 (aA) (dJ key l)]++cs) w4:=by
  have hq:cur=dJ key l:=nT (hB.PJ (by have:=hTc.length;omega)) hTc
  rw [<-hq];exact s5
 exact ⟨rfl,s11⟩
theorem KX (w0 w:World) (cs:List Chunk) (v:Value) (l:List It) (key:It->Nat) (D:It->Prop) (fi:FuncId) (cap:Array Value) (hE:Enters prog fi) (hcmp:l8 prog fi cap aA.ag key D w0 cs) (hs:Sat w0 ([cL v 288 (aA) (l)]++cs) w) (hD:∀ x∈l,D x) (hn:l.length<=1000000000000):
  CallsV prog 260 [v,(.func (.func fi) #[] cap)] w λ r w'=>r= .tuple #[]/\Sat w0 ([cL v 288 (aA) (dJ key l)]++cs) w':=by
 refine ae func260 rfl rfl ?_
 refine .region<| .ln 2 (hs.ah 0 rfl) rfl<| .z 1 rfl ?_
 have A1:Sat w0 ([cL v 288 (aA) (l)]++([]++cs)) _:=(Sat.order [0] (by decide) hs).cut 1
 refine .c 0 (NO w0 _ cs v (l) (l.length) key D fi cap hE hcmp A1 hD rfl hn) rfl λ r1 _ h1=> ?_
 obtain ⟨rfl,p1⟩:=h1
 have s1:Sat w0 ([cL v 288 (aA) (dJ key (l))]++cs) _:=p1
 refine .nil ?_
 show aK _ _ _ _ _ _
 refine bt rfl ?_
 exact ⟨rfl,s1⟩
theorem F6 (w0 w:World) (cs:List Chunk) (v:Value) (f:Value) (l:List Nat) (a b n:Nat) (hs:Sat w0 ([cL v 3 (a8 .i64) (l)]++cs) w) (ha:a+n<=l.length) (hb:b+n<=l.length) (hn:l.length<=1000000000000):
  CallsV prog 289 [v,(.int .i64 a),(.int .i64 b),(.int .i64 n),f] w λ r w'=>r= .tuple #[]/\Sat w0 ([cL v 3 (a8 .i64) (bF l a b n)]++cs) w':=by
 refine ae func289 rfl rfl ?_
 refine .Z rfl<| .block<| .lq [0,1,2,3] rfl (α:=Nat) (λ k=>[(10,(.int .i64 k))]) (λ k w'=>Sat w0 ([cL v 3 (a8 .i64) (bF l a b k)]++cs) w'/\(k<=n)) (λ k=>n-k) 0 ⟨hs,Nat.zero_le _⟩ ?_
 rintro k w1 ⟨s1,hk⟩
 refine .seq<| .Z rfl<| .ab rfl (λ c1=> ?_) λ c1=> ?_
 ·refine .skip<| .seq<| .block ?_
  have hlk:(bF l a b k).length=l.length:=nS ..
  obtain ⟨x,hx⟩:∃ x,(bF l a b k)[(a+k)]? =some x:=⟨_,getElem?_eq_getElem (by omega)⟩
  obtain ⟨y,hy⟩:∃ y,(bF l a b k)[(b+k)]? =some y:=⟨_,getElem?_eq_getElem (by omega)⟩
  have hshp1:=(s1.ah (E:=a8 .i64) 0 rfl).iR (by decide)
  refine .lr (λ w'=>Sat w0 ([cL v 3 (a8 .i64) (bF l a b k)]++cs) w') (λ w'=>Sat w0 ([]++cs) w') 21 (pl [0,1,2,3] (.loose 4 (.loose 5 (.loose 6 (.loose 7 (pl [8,9,10,11,12,13] (.loose 14 (.loose 15 (.loose 16 (.loose 17 (.loose 18 (pl [19,20] (.bar 21 (pl [22,1023] .fin)))))))))))))) (λ w' h=>h.sub ((.cons _ (.refl _)))) mixed (by kernel_rfl) ?_
  have s2:=s1.drew
  refine .z 4 s2 rfl<| .loose rfl rfl rfl (λ _ s=> .move rfl) s2<| .loose rfl rfl rfl (λ _ s=> .move rfl) s2<| .loose rfl rfl rfl (λ _ s=> .move rfl) s2<| .loose rfl rfl rfl (λ _ s=> .vj rfl rfl (by omega)) s2<| .ix 4 s2 (·.ah 0 rfl) rfl<| .le 0 s2 (·.ah 0 rfl) hy rfl<| .loose rfl rfl rfl (λ _ s=> .move rfl) s2<| .loose rfl rfl rfl (λ _ s=> .move rfl) s2<| .loose rfl rfl rfl (λ _ s=> .move rfl) s2<| .loose rfl rfl rfl (λ _ s=> .vj rfl rfl (by omega)) s2<| .loose rfl rfl rfl (λ _ s=> .fK bj rfl rfl hshp1 (by omega)) s2<| .le 0 s2 (·.ah 0 rfl) hx rfl<| .ix 0 s2 (·.ah 0 rfl) rfl<| .bar rfl rfl rfl (OpE.dS (a:=y) 0 dj s2 rfl rfl rfl rfl (by (try simp only [length_set]);omega) λ _ s3 _=> ?_)
  have S1:Sat w0 ([]++cs) _:=s3.sub ((.cons _ (.refl _)))
  refine ⟨S1,?_⟩
  refine .e rfl (λ _ s=> .fK bj rfl rfl hshp1 (by omega)) S1<| .f rfl (.dS (a:=x) 0 dj s3 rfl rfl rfl rfl (by (try simp only [length_set]);omega) λ w3 s4 _=> ?_)
  have S2:Sat w0 ([]++cs) _:=s4.sub ((.cons _ (.refl _)))
  refine ⟨S2,?_⟩
  refine .fin ?_
  have s5:Sat w0 ([cL v 3 (a8 .i64) (bF l a b (k+1))]++cs) w3:=by
   have hq:((bF l a b k).set (a+k) y).set (b+k) x=bF l a b (k+1):=by rw [bF,nR hx hy]
   rw [<-hq];exact s4
  refine .U rfl ?_
  exact bc (k+1) ⟨s5,by omega⟩
 refine .ao ?_
 show aK _ _ _ _ _ _
 refine bt rfl ?_
 have s6:Sat w0 ([cL v 3 (a8 .i64) (bF l a b n)]++cs) w1:=by
  have hq:bF l a b k=bF l a b n:=by rw [show k=n by omega]
  rw [<-hq];exact s1
 exact ⟨rfl,s6⟩
theorem KZ (w0 w:World) (cs:List Chunk) (v:Value) (l:List Nat) (a b:Nat) (key:Nat->Nat) (D:Nat->Prop) (fi:FuncId) (cap:Array Value) (hE:Enters prog fi) (hcmp:l8 prog fi cap (λ x:Nat=>Value.int .i64 (x:Int)) key D w0 cs) (hs:Sat w0 ([cL v 3 (a8 .i64) (l)]++cs) w) (hD:∀ x∈l,D x) (ha:a<=l.length) (hb:b<=l.length) (hn:l.length<=1000000000000):
  CallsV prog 250 [v,(.int .i64 a),(.int .i64 b),(.func (.func fi) #[] cap)] w λ r w'=>r= .tuple #[]/\Sat w0 ([cL v 3 (a8 .i64) (cP key a l (b-a-1))]++cs) w':=by
 refine ae func250 rfl rfl ?_
 refine .Z rfl<| .block<| .lq [0,1,2,3] rfl (α:=Nat) (λ k=>[(8,(.int .i64 ((a+k+1):Nat)))]) (λ k w'=>Sat w0 ([cL v 3 (a8 .i64) (cP key a l k)]++cs) w'/\(k=0\/a+k+1<=b)/\(∀ x∈cP key a l k,D x)) (λ k=>b-k) 0 ⟨hs,.inl rfl,hD⟩ ?_
 rintro k w1 ⟨s1,hk,hDk⟩
 refine .seq<| .Z rfl<| .ab rfl (λ c1=> ?_) λ c1=> ?_
 ·refine .skip<| .seq<| .block<| .Z rfl<| .block<| .lq [0,1,2,3,8] rfl (α:=Nat×List Nat) (λ (j,cur)=>[(9,(.int .i64 j))]) (λ (j,cur) w'=>Sat w0 ([cL v 3 (a8 .i64) (cur)]++cs) w'/\(j<=a+k+1)/\(l3 key a j cur=l3 key a (a+k+1) (cP key a l k))/\(cur.length=l.length)/\(∀ x∈cur,D x)) (λ (j,cur)=>j) (a+k+1,cP key a l k) ⟨s1,Nat.le_refl _,rfl,jS ..,hDk⟩ ?_
  rintro ⟨j,cur⟩ w2 ⟨s2,hj,hcur,hlc,hDc⟩
  refine .seq<| .seq ?_
  obtain ⟨x,hx⟩:∃ x,(cur)[j]? =some x:=⟨_,getElem?_eq_getElem (by omega)⟩
  obtain ⟨y,hy⟩:∃ y,(cur)[(j-1)]? =some y:=⟨_,getElem?_eq_getElem (by omega)⟩
  refine .md [0,1,2,3,8,9] rfl (λ K L' w'=>Weak ([(34,(.bool (decide ((a<j)/\(key x<key y)))))]++K) L'/\Sat w0 s2.L w') ?_ ?_
  ·refine .draw (λ w'=>Sat w0 ([cL v 3 (a8 .i64) (cur)]++cs) w') (pl [0,1,2,3,4,5,6,7,8,9,10,11,12,13,1014,15,16] .fin) mixed (by kernel_rfl) ?_
   have s3:=s2.drew
   refine .z 4 s3 rfl<| .B 21 rfl (λ g1=> ?_) λ g1=> ?_
   ·refine .ix 3 s3 (·.ah 0 rfl) rfl<| .le 0 s3 (·.ah 0 rfl) hx rfl<| .ix 3 s3 (·.ah 0 rfl) rfl<| .le 0 s3 (·.ah 0 rfl) hy rfl<| .b 0 s3 rfl (.km hE rfl rfl ((hcmp _ _ s3 (x) (y) (hDc _ (aa hx)) (hDc _ (aa hy))).mono λ r1 _ h1=> ?_))
    obtain ⟨z1,rfl,hz1,p1⟩:=h1
    have s4:Sat w0 ([cL v 3 (a8 .i64) (cur)]++cs) _:=(s3.aD p1).dm
    have S1:Sat w0 ([_]++cs) _:=s4.sub ((.cons_cons _ (.refl _)))
    refine ⟨S1,?_⟩
    refine .a 0 S1 rfl (λ _ s=> .kq rfl rfl hz1)<| .Z S1 rfl ?_
    exact ⟨⟨congrArg some (congrArg Value.bool (by simp [g1])),rfl,rfl,rfl,rfl,rfl,rfl,trivial⟩,s4⟩
   refine .Z s3 rfl ?_
   exact ⟨⟨congrArg some (congrArg Value.bool (by simp [g1])),rfl,rfl,rfl,rfl,rfl,rfl,trivial⟩,s3⟩
  rintro L' w4 ⟨hw1,s5⟩
  refine .weaken _ hw1<| .ab rfl (λ c2=> ?_) λ c2=> ?_
  ·refine .skip<| .seq<| .block ?_
   have hshp1:=(s5.ah (E:=a8 .i64) 0 rfl).iR (by decide)
   refine .lr (λ w'=>Sat w0 ([cL v 3 (a8 .i64) (cur)]++cs) w') (λ w'=>Sat w0 ([]++cs) w') 15 (pl [0,1] (.loose 2 (.loose 3 (.loose 4 (pl [5,6,7,8,9] (.loose 10 (.loose 11 (.loose 12 (pl [13,14] (.bar 15 (pl [16,1017] .fin))))))))))) (λ w' h=>h.sub ((.cons _ (.refl _)))) mixed (by kernel_rfl) ?_
   have s6:=s5.drew
   refine .z 2 s6 rfl<| .loose rfl rfl rfl (λ _ s=> .move rfl) s6<| .loose rfl rfl rfl (λ _ s=> .move rfl) s6<| .loose rfl rfl rfl (λ _ s=> .HW (b:=1) rfl rfl (by omega) (by omega)) s6<| .ix 3 s6 (·.ah 0 rfl) rfl<| .le 0 s6 (·.ah 0 rfl) hy rfl<| .loose rfl rfl rfl (λ _ s=> .move rfl) s6<| .loose rfl rfl rfl (λ _ s=> .move rfl) s6<| .loose rfl rfl rfl (λ _ s=> .fK bj rfl rfl hshp1 (by omega)) s6<| .le 0 s6 (·.ah 0 rfl) hx rfl<| .ix 0 s6 (·.ah 0 rfl) rfl<| .bar rfl rfl rfl (OpE.dS (a:=y) 0 dj s6 rfl rfl rfl rfl (by (try simp only [length_set]);omega) λ _ s7 _=> ?_)
   have S2:Sat w0 ([]++cs) _:=s7.sub ((.cons _ (.refl _)))
   refine ⟨S2,?_⟩
   refine .e rfl (λ _ s=> .fK bj rfl rfl hshp1 (by omega)) S2<| .f rfl (.dS (a:=x) 0 dj s7 rfl rfl rfl rfl (by (try simp only [length_set]);omega) λ _ s8 _=> ?_)
   have S3:Sat w0 ([]++cs) _:=s8.sub ((.cons _ (.refl _)))
   refine ⟨S3,?_⟩
   refine .fin<| .U rfl ?_
   exact bc (j-1,(cur.set j y).set (j-1) x) ⟨s8,by omega,by rw [<-hcur,xn c2 hx hy],by simp only [length_set];exact hlc,λ z hz=>hDc z (yf hx hy hz)⟩
  refine .ao ?_
  have hDk1:∀ x∈cP key a l (k+1),D x:=by rw [show cP key a l (k+1)=cur from ((iG c2 hx hy).symm.trans hcur).symm];exact hDc
  have s9:Sat w0 ([cL v 3 (a8 .i64) (cP key a l (k+1))]++cs) w4:=by
   have hq:cur=cP key a l (k+1):=(iG c2 hx hy).symm.trans hcur
   rw [<-hq];exact s5
  refine .U rfl ?_
  exact bc (k+1) ⟨s9,.inr (by omega),hDk1⟩
 refine .ao ?_
 show aK _ _ _ _ _ _
 refine bt rfl ?_
 have s10:Sat w0 ([cL v 3 (a8 .i64) (cP key a l (b-a-1))]++cs) w1:=by
  have hq:cP key a l k=cP key a l (b-a-1):=by rw [show k=b-a-1 by omega]
  rw [<-hq];exact s1
 exact ⟨rfl,s10⟩
theorem NP (w0 w:World) (cs:List Chunk) (v:Value) (f:Value) (A X0 Y0 B:List Nat) (a m b:Nat) (hs:Sat w0 ([cL v 3 (a8 .i64) (A++X0++Y0++B)]++cs) w) (ha:a=A.length) (hm:m=a+X0.length) (hb:b=m+Y0.length) (hX0:0<X0.length) (hY0:0<Y0.length) (hn:(A++X0++Y0++B).length<=1000000000000):
  CallsV prog 288 [v,(.int .i64 a),(.int .i64 m),(.int .i64 b),f] w λ r w'=>r= .tuple #[]/\Sat w0 ([cL v 3 (a8 .i64) (A++Y0++X0++B)]++cs) w':=by
 simp only [length_append] at hn
 refine ae func288 rfl rfl ?_
 refine .Z rfl<| .Z rfl<| .seq<| .block<| .lp [0,2,4] rfl (α:=List Nat×List Nat×List Nat×List Nat) (λ (P,X,Y,Q)=>[(10,(.int .i64 X.length)),(11,(.int .i64 Y.length))]) (λ (P,X,Y,Q) w'=>Sat w0 ([cL v 3 (a8 .i64) (P++X++Y++Q)]++cs) w'/\(P.length+X.length=m)/\(P++Y++X++Q=A++Y0++X0++B)/\(0<X.length)/\(0<Y.length)) (λ (P,X,Y,Q)=>X.length+Y.length) (A,X0,Y0,B) ⟨congrArg some (congrArg (Value.int .i64) (by omega)),congrArg some (congrArg (Value.int .i64) (by omega)),rfl,rfl,rfl,trivial⟩ ⟨hs,by omega,rfl,hX0,hY0⟩ ?_
 rintro ⟨P,X,Y,Q⟩ w1 ⟨s1,hPm,hT,hXp,hYp⟩
 have hT2:=congrArg List.length hT
 simp only [length_append] at hT2
 refine .seq<| .Z rfl<| .ab rfl (λ c1=> ?_) λ c1=> ?_
 ·refine .skip<| .block<| .Z rfl<| .ab rfl (λ c2=> ?_) λ c2=> ?_
  ·refine .h<| .z 7 rfl ?_
   have A1:Sat w0 ([cL v 3 (a8 .i64) (P++X++Y++Q)]++([]++cs)) _:=(Sat.order [0] (by decide) s1).cut 1
   refine .c 0 (F6 _ _ _ _ _ (P++X++Y++Q) ((m-X.length)) (m) (Y.length) A1 (by simp only [length_append];omega) (by simp only [length_append];omega) (by simp only [length_append];omega)) rfl λ r1 w2 h1=> ?_
   obtain ⟨rfl,p1⟩:=h1
   have s2:Sat w0 ([cL v 3 (a8 .i64) (bF (P++X++Y++Q) (m-X.length) m Y.length)]++cs) _:=p1
   refine .nil ?_
   have s3:Sat w0 ([cL v 3 (a8 .i64) (P++Y++X.drop Y.length++X.take Y.length++Q)]++cs) w2:=by
    have hq:bF (P++X++Y++Q) (m-X.length) m Y.length=P++Y++X.drop Y.length++X.take Y.length++Q:=by have h:=gm (a:=m-X.length) (b:=m) (n:=Y.length) P (X.take Y.length) (X.drop Y.length) Y Q (by simp;omega) (by omega) (by simp;omega) (by simp;omega);rw [<-h];simp
    rw [<-hq];exact s2
   refine .U rfl ?_
   exact ⟨(P++Y,X.drop Y.length,X.take Y.length,Q),⟨congrArg some (congrArg (Value.int .i64) (by simp)),congrArg some (congrArg (Value.int .i64) (by simp;omega)),rfl,rfl,rfl,trivial⟩,⟨s3,by simp only [length_append,length_drop];omega,by rw [<-hT];(conv=>rhs;rw [<-take_append_drop Y.length X]);simp,by simp only [length_drop];omega,by simp only [length_take];omega⟩,(show ((X.drop Y.length).length+(X.take Y.length).length)<(X.length+Y.length) from by (try simp only [length_drop,length_take]);omega)⟩
  refine .h<| .z 11 rfl ?_
  have A2:Sat w0 ([cL v 3 (a8 .i64) (P++X++Y++Q)]++([]++cs)) _:=(Sat.order [0] (by decide) s1).cut 1
  refine .c 0 (F6 _ _ _ _ _ (P++X++Y++Q) ((m-X.length)) (((m+Y.length)-X.length)) (X.length) A2 (by simp only [length_append];omega) (by simp only [length_append];omega) (by simp only [length_append];omega)) rfl λ r2 w3 h2=> ?_
  obtain ⟨rfl,p2⟩:=h2
  have s4:Sat w0 ([cL v 3 (a8 .i64) (bF (P++X++Y++Q) (m-X.length) ((m+Y.length)-X.length) X.length)]++cs) _:=p2
  refine .nil ?_
  have s5:Sat w0 ([cL v 3 (a8 .i64) (P++Y.drop (Y.length-X.length)++Y.take (Y.length-X.length)++(X++Q))]++cs) w3:=by
   have hq:bF (P++X++Y++Q) (m-X.length) ((m+Y.length)-X.length) X.length=P++Y.drop (Y.length-X.length)++Y.take (Y.length-X.length)++(X++Q):=by have h:=gm (a:=m-X.length) (b:=m+Y.length-X.length) (n:=X.length) P X (Y.take (Y.length-X.length)) (Y.drop (Y.length-X.length)) Q (by simp;omega) (by omega) (by simp;omega) rfl;rw [show P++Y.drop (Y.length-X.length)++Y.take (Y.length-X.length)++(X++Q)=P++Y.drop (Y.length-X.length)++Y.take (Y.length-X.length)++X++Q by simp,<-h];simp
   rw [<-hq];exact s4
  refine .U rfl ?_
  exact ⟨(P,Y.drop (Y.length-X.length),Y.take (Y.length-X.length),X++Q),⟨congrArg some (congrArg (Value.int .i64) (by simp;omega)),congrArg some (congrArg (Value.int .i64) (by simp)),rfl,rfl,rfl,trivial⟩,⟨s5,by simp only [length_drop];omega,by rw [<-hT];(conv=>rhs;rw [<-take_append_drop (Y.length-X.length) Y]);simp,by simp only [length_drop];omega,by simp only [length_take];omega⟩,(show ((Y.drop (Y.length-X.length)).length+(Y.take (Y.length-X.length)).length)<(X.length+Y.length) from by (try simp only [length_drop,length_take]);omega)⟩
 refine .ao<| .region<| .z 7 rfl ?_
 have A3:Sat w0 ([cL v 3 (a8 .i64) (P++X++Y++Q)]++([]++cs)) _:=(Sat.order [0] (by decide) s1).cut 1
 refine .c 0 (F6 _ _ _ _ _ (P++X++Y++Q) ((m-X.length)) (m) (X.length) A3 (by simp only [length_append];omega) (by simp only [length_append];omega) (by simp only [length_append];omega)) rfl λ r3 w4 h3=> ?_
 obtain ⟨rfl,p3⟩:=h3
 have s6:Sat w0 ([cL v 3 (a8 .i64) (bF (P++X++Y++Q) (m-X.length) m X.length)]++cs) _:=p3
 refine .nil ?_
 show aK _ _ _ _ _ _
 refine bt rfl ?_
 have s7:Sat w0 ([cL v 3 (a8 .i64) (A++Y0++X0++B)]++cs) w4:=by
  have hq:bF (P++X++Y++Q) (m-X.length) m X.length=A++Y0++X0++B:=by have h:=gm (a:=m-X.length) (b:=m) (n:=X.length) P X [] Y Q (by omega) (by omega) (by simp;omega) rfl;rw [<-hT];simpa using h
  rw [<-hq];exact s6
 exact ⟨rfl,s7⟩
theorem AI (w0 w:World) (cs:List Chunk) (v:Value) (key:Nat->Nat) (D:Nat->Prop) (fi:FuncId) (cap:Array Value) (hE:Enters prog fi) (hcmp:l8 prog fi cap (λ x:Nat=>Value.int .i64 (x:Int)) key D w0 cs) (k:Nat) (IH:∀ (w:World) (A L R B:List Nat) (a m b:Nat),L.length+R.length<k->Sat w0 ([cL v 3 (a8 .i64) (A++L++R++B)]++cs) w->a=A.length->m=a+L.length->b=m+R.length->Srt key L->Srt key R->0<L.length->0<R.length->(∀ x∈A++L++R++B,D x)->(A++L++R++B).length<=1000000000000->CallsV prog 286 [v,(.int .i64 (a:Int)),(.int .i64 (m:Int)),(.int .i64 (b:Int)),(.func (.func fi) #[] cap)] w (λ r w'=>r= .tuple #[]/\∃ M,Sat w0 ([cL v 3 (a8 .i64) (A++M++B)]++cs) w'/\Srt key M/\Stb key (L++R) M)) (A L R B l:List Nat) (hl:l=A++L++R++B) (a m b:Nat) (hk:k=L.length+R.length) (hs:Sat w0 ([cL v 3 (a8 .i64) (l)]++cs) w) (ha:a=A.length) (hm:m=a+L.length) (hb:b=m+R.length) (hL:Srt key L) (hR:Srt key R) (hL0:0<L.length) (hR0:0<R.length) (hD:∀ x∈l,D x) (hn:l.length<=1000000000000):
  CallsV prog 286 [v,(.int .i64 a),(.int .i64 m),(.int .i64 b),(.func (.func fi) #[] cap)] w λ r w'=>r= .tuple #[]/\∃ M,Sat w0 ([cL v 3 (a8 .i64) (A++M++B)]++cs) w'/\Srt key M/\Stb key (L++R) M:=by
 have hbl:b<=l.length:=by rw [hl];simp only [length_append];omega
 refine ae func286 rfl rfl ?_
 refine .seq<| .Z rfl<| .ab rfl (λ c1=> ?_) λ c1=> ?_
 ·refine .seq ?_
  obtain ⟨x0,hLx⟩:∃ x0,L=[x0]:=length_eq_one_iff.1 (by omega)
  have hx0:l[a]? =some x0:=by rw [hl,hLx,ha];simp
  refine .U rfl<| .Z rfl<| .seq<| .block<| .lq [0,1,2,3,4] rfl (α:=Nat×Nat) (λ (i,j)=>[(10,(.int .i64 i)),(11,(.int .i64 j))]) (λ (i,j) w'=>Sat w0 hs.L w'/\(m<=i)/\(i<=j)/\(j<=b)/\(m<i->∀ y,l[i-1]? =some y->key y<key x0)/\(j<b->∀ y,l[j]? =some y->key x0<=key y)) (λ (i,j)=>j-i) (m,b) ⟨hs,Nat.le_refl _,by omega,Nat.le_refl _,λ h=>absurd h (by omega),λ h=>absurd h (by omega)⟩ ?_
  rintro ⟨i,j⟩ w1 ⟨s1,hmi,hij,hjb,hlo,hhi⟩
  refine .seq<| .Z rfl<| .ab rfl (λ c2=> ?_) λ c2=> ?_
  ·refine .skip<| .block<| .Z rfl<| .seq ?_
   obtain ⟨h,hh⟩:∃ q,q=(i+j)/2^1:=⟨_,rfl⟩
   refine .weaken [(0,_),(1,_),(2,_),(3,_),(4,_),(10,_),(11,_),(12,(.int .i64 h)),(31,_),(32,_),(34,_),(35,_),(36,_),(37,_),(38,_),(39,_)] ⟨rfl,rfl,rfl,rfl,rfl,rfl,rfl,congrArg some (by rw [hh]),rfl,rfl,rfl,rfl,rfl,rfl,rfl,rfl,trivial⟩ ?_
   obtain ⟨y,hy⟩:∃ y,(l)[h]? =some y:=⟨_,getElem?_eq_getElem (by omega)⟩
   refine .draw (λ w'=>Sat w0 ([cL v 3 (a8 .i64) (l)]++cs) w') (pl [0,1,2,3,4,5,6,7,8,1009,10] .fin) mixed (by kernel_rfl) ?_
   have s2:=s1.drew
   refine .ix 3 s2 (·.ah 0 rfl) rfl<| .le 0 s2 (·.ah 0 rfl) hy rfl<| .ix 2 s2 (·.ah 0 rfl) rfl<| .le 0 s2 (·.ah 0 rfl) hx0 rfl<| .f rfl (.km hE rfl rfl ((hcmp _ _ s2 (y) (x0) (hD _ (aa hy)) (hD _ (aa hx0))).mono λ r1 _ h1=> ?_))
   obtain ⟨z1,rfl,hz1,p1⟩:=h1
   have s3:Sat w0 ([cL v 3 (a8 .i64) (l)]++cs) _:=(s2.aD p1).dm
   have S1:Sat w0 ([_]++cs) _:=s3.sub ((.cons_cons _ (.refl _)))
   refine ⟨S1,?_⟩
   refine .e rfl (λ _ s=> .kq rfl rfl hz1) S1<| .fin<| .ab rfl (λ c3=> ?_) λ c3=> ?_
   ·refine .U rfl ?_
    exact bc (h+1,j) ⟨s3,by omega,by omega,by omega,λ _ y2 h2=>by rw [Nat.add_sub_cancel,hy] at h2;cases h2;exact c3,hhi⟩
   refine .U rfl ?_
   exact bc (i,h) ⟨s3,by omega,by omega,by omega,hlo,λ _ y2 h2=>by rw [hy] at h2;cases h2;omega⟩
  refine .ao<| .seq<| .Z rfl<| .block<| .lq [0,1,10] rfl (α:=Nat) (λ q=>[(13,(.int .i64 ((a+q):Nat)))]) (λ q w'=>Sat w0 ([cL v 3 (a8 .i64) (pA l a q)]++cs) w'/\(q<=(i-1-a))) (λ q=>(i-1-a)-q) 0 ⟨s1,Nat.zero_le _⟩ ?_
  rintro q w3 ⟨s4,hq⟩
  refine .seq<| .Z rfl<| .ab rfl (λ c4=> ?_) λ c4=> ?_
  ·refine .skip<| .seq<| .block ?_
   have hlq:(pA l a q).length=l.length:=tR ..
   obtain ⟨x1,hx1⟩:∃ x1,(pA l a q)[(a+q)]? =some x1:=⟨_,getElem?_eq_getElem (by omega)⟩
   obtain ⟨x2,hx2⟩:∃ x2,(pA l a q)[((a+q)+1)]? =some x2:=⟨_,getElem?_eq_getElem (by omega)⟩
   have hshp1:=(s4.ah (E:=a8 .i64) 0 rfl).iR (by decide)
   refine .lr (λ w'=>Sat w0 ([cL v 3 (a8 .i64) (pA l a q)]++cs) w') (λ w'=>Sat w0 ([]++cs) w') 15 (pl [0,1] (.loose 2 (.loose 3 (.loose 4 (pl [5,6,7,8,9] (.loose 10 (.loose 11 (.loose 12 (pl [13,14] (.bar 15 (pl [16,1017] .fin))))))))))) (λ w' h=>h.sub ((.cons _ (.refl _)))) mixed (by kernel_rfl) ?_
   have s5:=s4.drew
   refine .z 2 s5 rfl<| .loose rfl rfl rfl (λ _ s=> .move rfl) s5<| .loose rfl rfl rfl (λ _ s=> .move rfl) s5<| .loose rfl rfl rfl (λ _ s=> .vj (b:=1) rfl rfl (by omega)) s5<| .ix 3 s5 (·.ah 0 rfl) rfl<| .le 0 s5 (·.ah 0 rfl) hx2 rfl<| .loose rfl rfl rfl (λ _ s=> .move rfl) s5<| .loose rfl rfl rfl (λ _ s=> .move rfl) s5<| .loose rfl rfl rfl (λ _ s=> .fK bj rfl rfl hshp1 (by omega)) s5<| .le 0 s5 (·.ah 0 rfl) hx1 rfl<| .ix 0 s5 (·.ah 0 rfl) rfl<| .bar rfl rfl rfl (OpE.dS (a:=x2) 0 dj s5 rfl rfl rfl rfl (by (try simp only [length_set]);omega) λ _ s6 _=> ?_)
   have S2:Sat w0 ([]++cs) _:=s6.sub ((.cons _ (.refl _)))
   refine ⟨S2,?_⟩
   refine .e rfl (λ _ s=> .fK bj rfl rfl hshp1 (by omega)) S2<| .f rfl (.dS (a:=x1) 0 dj s6 rfl rfl rfl rfl (by (try simp only [length_set]);omega) λ w5 s7 _=> ?_)
   have S3:Sat w0 ([]++cs) _:=s7.sub ((.cons _ (.refl _)))
   refine ⟨S3,?_⟩
   refine .fin ?_
   have s8:Sat w0 ([cL v 3 (a8 .i64) (pA l a (q+1))]++cs) w5:=by
    have hq:((pA l a q).set (a+q) x2).set ((a+q)+1) x1=pA l a (q+1):=by rw [pA,nR hx1 hx2]
    rw [<-hq];exact s7
   refine .U rfl ?_
   exact ⟨q+1,⟨congrArg some (congrArg (Value.int .i64) (by omega)),rfl,rfl,rfl,trivial⟩,⟨s8,by omega⟩,by omega⟩
  refine .ao<| .ret ?_
  show aK _ _ _ _ _ _
  refine bt rfl ?_
  obtain ⟨M,hM,hMs,hMt⟩:=zk (key:=key) (l:=l) (A:=A) (B:=B) (R:=R) (x:=x0) (by rw [hl,hLx]) ha (i:=i) (by omega) hb (by omega) (by omega) hlo (by rw [show j=i by omega] at hhi;exact hhi) hR
  have s9:Sat w0 ([cL v 3 (a8 .i64) (A++M++B)]++cs) w3:=by
   have hq:pA l a q=A++M++B:=by rw [show q=i-1-a by omega,hM]
   rw [<-hq];exact s4
  exact ⟨rfl,M,s9,hMs,by rw [hLx];exact hMt⟩
 refine .skip<| .seq<| .Z rfl<| .ab rfl (λ c5=> ?_) λ c5=> ?_
 ·refine .seq ?_
  obtain ⟨x0,hRx⟩:∃ x0,R=[x0]:=length_eq_one_iff.1 (by omega)
  have hx0:l[m]? =some x0:=by rw [hl,hRx,hm,ha,<-length_append];simp
  refine .U rfl<| .Z rfl<| .seq<| .block<| .lq [0,1,2,3,4] rfl (α:=Nat×Nat) (λ (i,j)=>[(14,(.int .i64 i)),(15,(.int .i64 j))]) (λ (i,j) w'=>Sat w0 hs.L w'/\(a<=i)/\(i<=j)/\(j<=m)/\(a<i->∀ y,l[i-1]? =some y->key y<=key x0)/\(j<m->∀ y,l[j]? =some y->key x0<key y)) (λ (i,j)=>j-i) (a,m) ⟨hs,Nat.le_refl _,by omega,Nat.le_refl _,λ h=>absurd h (by omega),λ h=>absurd h (by omega)⟩ ?_
  rintro ⟨i,j⟩ w6 ⟨s10,hmi,hij,hjb,hlo,hhi⟩
  refine .seq<| .Z rfl<| .ab rfl (λ c6=> ?_) λ c6=> ?_
  ·refine .skip<| .block<| .Z rfl<| .seq ?_
   obtain ⟨h,hh⟩:∃ q,q=(i+j)/2^1:=⟨_,rfl⟩
   refine .weaken [(0,_),(1,_),(2,_),(3,_),(4,_),(14,_),(15,_),(16,(.int .i64 h)),(83,_),(84,_),(86,_),(87,_),(88,_),(89,_),(90,_),(91,_)] ⟨rfl,rfl,rfl,rfl,rfl,rfl,rfl,congrArg some (by rw [hh]),rfl,rfl,rfl,rfl,rfl,rfl,rfl,rfl,trivial⟩ ?_
   obtain ⟨y,hy⟩:∃ y,(l)[h]? =some y:=⟨_,getElem?_eq_getElem (by omega)⟩
   refine .draw (λ w'=>Sat w0 ([cL v 3 (a8 .i64) (l)]++cs) w') (pl [0,1,2,3,4,5,6,7,8,1009,10,11] .fin) mixed (by kernel_rfl) ?_
   have s11:=s10.drew
   refine .ix 3 s11 (·.ah 0 rfl) rfl<| .le 0 s11 (·.ah 0 rfl) hx0 rfl<| .ix 2 s11 (·.ah 0 rfl) rfl<| .le 0 s11 (·.ah 0 rfl) hy rfl<| .f rfl (.km hE rfl rfl ((hcmp _ _ s11 (x0) (y) (hD _ (aa hx0)) (hD _ (aa hy))).mono λ r2 _ h_2=> ?_))
   obtain ⟨z2,rfl,hz2,p2⟩:=h_2
   have s12:Sat w0 ([cL v 3 (a8 .i64) (l)]++cs) _:=(s11.aD p2).dm
   have S4:Sat w0 ([_]++cs) _:=s12.sub ((.cons_cons _ (.refl _)))
   refine ⟨S4,?_⟩
   refine .e rfl (λ _ s=> .kq rfl rfl hz2) S4<| .e rfl (λ _ s=> .jz rfl) S4<| .fin<| .ab rfl (λ c7=> ?_) λ c7=> ?_
   ·refine .U rfl ?_
    exact bc (h+1,j) ⟨s12,by omega,by omega,by omega,λ _ y2 h2=>by rw [Nat.add_sub_cancel,hy] at h2;cases h2;omega,hhi⟩
   refine .U rfl ?_
   exact bc (i,h) ⟨s12,by omega,by omega,by omega,hlo,λ _ y2 h2=>by rw [hy] at h2;cases h2;omega⟩
  refine .ao<| .seq<| .Z rfl<| .block<| .lq [0,14] rfl (α:=Nat) (λ q=>[(17,(.int .i64 ((m-q):Nat)))]) (λ q w'=>Sat w0 ([cL v 3 (a8 .i64) (pB l m q)]++cs) w'/\(q<=(m-i))) (λ q=>(m-i)-q) 0 ⟨s10,Nat.zero_le _⟩ ?_
  rintro q w8 ⟨s13,hq⟩
  refine .seq<| .Z rfl<| .ab rfl (λ c8=> ?_) λ c8=> ?_
  ·refine .skip<| .seq<| .block ?_
   have hlq:(pB l m q).length=l.length:=tS ..
   obtain ⟨x1,hx1⟩:∃ x1,(pB l m q)[(m-q)]? =some x1:=⟨_,getElem?_eq_getElem (by omega)⟩
   obtain ⟨x2,hx2⟩:∃ x2,(pB l m q)[((m-q)-1)]? =some x2:=⟨_,getElem?_eq_getElem (by omega)⟩
   have hshp2:=(s13.ah (E:=a8 .i64) 0 rfl).iR (by decide)
   refine .lr (λ w'=>Sat w0 ([cL v 3 (a8 .i64) (pB l m q)]++cs) w') (λ w'=>Sat w0 ([]++cs) w') 15 (pl [0,1] (.loose 2 (.loose 3 (.loose 4 (pl [5,6,7,8,9] (.loose 10 (.loose 11 (.loose 12 (pl [13,14] (.bar 15 (pl [16,1017] .fin))))))))))) (λ w' h=>h.sub ((.cons _ (.refl _)))) mixed (by kernel_rfl) ?_
   have s14:=s13.drew
   refine .z 2 s14 rfl<| .loose rfl rfl rfl (λ _ s=> .move rfl) s14<| .loose rfl rfl rfl (λ _ s=> .move rfl) s14<| .loose rfl rfl rfl (λ _ s=> .HW (b:=1) rfl rfl (by omega) (by omega)) s14<| .ix 3 s14 (·.ah 0 rfl) rfl<| .le 0 s14 (·.ah 0 rfl) hx2 rfl<| .loose rfl rfl rfl (λ _ s=> .move rfl) s14<| .loose rfl rfl rfl (λ _ s=> .move rfl) s14<| .loose rfl rfl rfl (λ _ s=> .fK bj rfl rfl hshp2 (by omega)) s14<| .le 0 s14 (·.ah 0 rfl) hx1 rfl<| .ix 0 s14 (·.ah 0 rfl) rfl<| .bar rfl rfl rfl (OpE.dS (a:=x2) 0 dj s14 rfl rfl rfl rfl (by (try simp only [length_set]);omega) λ _ s15 _=> ?_)
   have S5:Sat w0 ([]++cs) _:=s15.sub ((.cons _ (.refl _)))
   refine ⟨S5,?_⟩
   refine .e rfl (λ _ s=> .fK bj rfl rfl hshp2 (by omega)) S5<| .f rfl (.dS (a:=x1) 0 dj s15 rfl rfl rfl rfl (by (try simp only [length_set]);omega) λ w10 s16 _=> ?_)
   have S6:Sat w0 ([]++cs) _:=s16.sub ((.cons _ (.refl _)))
   refine ⟨S6,?_⟩
   refine .fin ?_
   have s17:Sat w0 ([cL v 3 (a8 .i64) (pB l m (q+1))]++cs) w10:=by
    have hq:((pB l m q).set (m-q) x2).set ((m-q)-1) x1=pB l m (q+1):=by rw [pB,nR hx1 hx2]
    rw [<-hq];exact s16
   refine .U rfl ?_
   exact ⟨q+1,⟨congrArg some (congrArg (Value.int .i64) (by omega)),rfl,rfl,trivial⟩,⟨s17,by omega⟩,by omega⟩
  refine .ao<| .ret ?_
  show aK _ _ _ _ _ _
  refine bt rfl ?_
  obtain ⟨M,hM,hMs,hMt⟩:=vY (key:=key) (l:=l) (A:=A) (B:=B) (L:=L) (x:=x0) (by rw [hl,hRx]) ha (i:=i) hm (by omega) (by omega) hlo (by rw [show j=i by omega] at hhi;exact hhi) hL
  have s18:Sat w0 ([cL v 3 (a8 .i64) (A++M++B)]++cs) w8:=by
   have hq:pB l m q=A++M++B:=by rw [show q=m-i by omega,hM]
   rw [<-hq];exact s13
  exact ⟨rfl,M,s18,hMs,by rw [hRx];exact hMt⟩
 refine .skip<| .Z rfl<| .seq ?_
 obtain ⟨mid,hmid⟩:∃ q,q=(a+b)/2^1:=⟨_,rfl⟩
 refine .weaken [(0,_),(1,_),(2,_),(3,_),(4,_),(18,(.int .i64 mid)),(25,_),(26,_),(27,_),(77,_),(78,_),(79,_),(129,_),(130,_),(131,_),(132,_),(133,_),(134,_)] ⟨rfl,rfl,rfl,rfl,rfl,congrArg some (by rw [hmid]),rfl,rfl,rfl,rfl,rfl,rfl,rfl,rfl,rfl,rfl,rfl,rfl,trivial⟩<| .U rfl<| .Z rfl<| .jn [0,1,2,3,4,18,19] rfl (λ K L' w'=>∃ (st0:Nat) (r0:Nat),Weak ([(20,(.int .i64 st0)),(21,(.int .i64 r0))]++K) L'/\Sat w0 hs.L w'/\(a<=st0)/\(st0<=r0)/\(r0<=mid)/\(r0<=m)/\(mid+m-st0<=b)/\(st0=a\/mid+m-st0=b)/\(r0=mid\/r0=m)) ?_ ?_
 ·refine .Z rfl<| .ab rfl (λ c9=> ?_) λ c9=> ?_
  ·refine .Z rfl<| .U rfl ?_
   exact ⟨((mid+m)-b),mid,(wk rfl),hs,by omega,by omega,by omega,by omega,by omega,.inr (by omega),.inl rfl⟩
  refine .Z rfl<| .U rfl ?_
  exact ⟨a,m,(wk rfl),hs,by omega,by omega,by omega,by omega,by omega,.inl rfl,.inr rfl⟩
 rintro L' w11 ⟨st0,r0,hw1,s19,has0,hsr0,hrm0,hrm1,hnb0,hst0,hr0⟩
 refine .weaken _ hw1<| .Z rfl<| .seq<| .block<| .lq [0,1,2,3,4,18,19,22] rfl (α:=Nat×Nat) (λ (st,r)=>[(20,(.int .i64 st)),(21,(.int .i64 r))]) (λ (st,r) w'=>Sat w0 s19.L w'/\(st0<=st)/\(st<=r)/\(r<=r0)/\(st0<st->∀ y z,l[mid+m-1-(st-1)]? =some y->l[st-1]? =some z->key z<=key y)/\(r<r0->∀ y z,l[mid+m-1-r]? =some y->l[r]? =some z->key y<key z)) (λ (st,r)=>r-st) (st0,r0) ⟨s19,Nat.le_refl _,hsr0,Nat.le_refl _,λ h=>absurd h (by omega),λ h=>absurd h (by omega)⟩ ?_
 rintro ⟨st,r⟩ w12 ⟨s20,hss,hsr,hrr,hlo,hhi⟩
 refine .seq<| .Z rfl<| .ab rfl (λ c10=> ?_) λ c10=> ?_
 ·refine .skip<| .block<| .Z rfl<| .seq ?_
  obtain ⟨h,hh⟩:∃ q,q=(st+r)/2^1:=⟨_,rfl⟩
  refine .weaken [(0,_),(1,_),(2,_),(3,_),(4,_),(18,_),(19,_),(20,_),(21,_),(22,_),(23,(.int .i64 h)),(149,_),(150,_),(152,_),(153,_),(154,_),(155,_),(156,_),(157,_)] ⟨rfl,rfl,rfl,rfl,rfl,rfl,rfl,rfl,rfl,rfl,congrArg some (by rw [hh]),rfl,rfl,rfl,rfl,rfl,rfl,rfl,rfl,trivial⟩ ?_
  obtain ⟨y,hy⟩:∃ y,(l)[(((mid+m)-1)-h)]? =some y:=⟨_,getElem?_eq_getElem (by omega)⟩
  obtain ⟨z,hz⟩:∃ z,(l)[h]? =some z:=⟨_,getElem?_eq_getElem (by omega)⟩
  refine .draw (λ w'=>Sat w0 ([cL v 3 (a8 .i64) (l)]++cs) w') (pl [0,1,2,3,4,5,6,7,8,9,10,1011,12,13] .fin) mixed (by kernel_rfl) ?_
  have s21:=s20.drew
  refine .ix 5 s21 (·.ah 0 rfl) rfl<| .le 0 s21 (·.ah 0 rfl) hy rfl<| .ix 2 s21 (·.ah 0 rfl) rfl<| .le 0 s21 (·.ah 0 rfl) hz rfl<| .f rfl (.km hE rfl rfl ((hcmp _ _ s21 (y) (z) (hD _ (aa hy)) (hD _ (aa hz))).mono λ r3 _ h3=> ?_))
  obtain ⟨z3,rfl,hz3,p3⟩:=h3
  have s22:Sat w0 ([cL v 3 (a8 .i64) (l)]++cs) _:=(s21.aD p3).dm
  have S7:Sat w0 ([_]++cs) _:=s22.sub ((.cons_cons _ (.refl _)))
  refine ⟨S7,?_⟩
  refine .e rfl (λ _ s=> .kq rfl rfl hz3) S7<| .e rfl (λ _ s=> .jz rfl) S7<| .fin<| .ab rfl (λ c11=> ?_) λ c11=> ?_
  ·refine .U rfl ?_
   exact bc (h+1,r) ⟨s22,by omega,by omega,by omega,λ _ y' z' hy' hz'=>by rw [Nat.add_sub_cancel] at hy' hz';rw [hy] at hy';rw [hz] at hz';cases hy';cases hz';omega,hhi⟩
  refine .U rfl ?_
  exact bc (st,h) ⟨s22,by omega,by omega,by omega,hlo,λ _ y' z' hy' hz'=>by rw [hy] at hy';rw [hz] at hz';cases hy';cases hz';omega⟩
 refine .ao<| .Z rfl ?_
 obtain ⟨L1,L2,R1,R2,hLs,hRs,hL1,hL2,hR1,hR2,hne,hle⟩:=CG (key:=key) hl ha hm hb hL hR (by omega) (by omega) (by omega) (by omega) hst0 hr0 hlo (by rw [show r=st by omega] at hhi;exact hhi) (by omega) (by omega)
 have hLx:L.length=L1.length+L2.length:=by rw [hLs,length_append]
 have hRx:R.length=R1.length+R2.length:=by rw [hRs,length_append]
 have hll:l.length=A.length+L.length+R.length+B.length:=by rw [hl];simp only [length_append]
 have hs1:Srt key L1:=by rw [hLs] at hL;exact hL.left
 have hs2:Srt key L2:=by rw [hLs] at hL;exact hL.right
 have hs3:Srt key R1:=by rw [hRs] at hR;exact hR.left
 have hs4:Srt key R2:=by rw [hRs] at hR;exact hR.right
 have hp0:∀ x,x∈A++L1++R1++(L2++R2++B)->D x:=λ x hx=>hD x (by rw [hl,hLs,hRs];simp only [mem_append] at hx⊢;grind)
 refine .jn [0,1,2,3,4,18,20,24] rfl (λ K L' w'=>Weak K L'/\Sat w0 ([cL v 3 (a8 .i64) (A++L1++R1++(L2++R2++B))]++cs) w') ?_ ?_
 ·refine .seq<| .bH 185 ((st<m)/\(m<((mid+m)-st))) ?_ ?_
  ·refine .z 4 rfl<| .B 181 rfl (λ g1=> ?_) λ g1=> ?_
   ·refine .M rfl (by simp [g1])
   refine .M rfl (by simp [g1])
  refine .ab rfl (λ c12=> ?_) λ c12=> ?_
  ·have s23:Sat w0 ([cL v 3 (a8 .i64) ((A++L1)++L2++R1++(R2++B))]++cs) w12:=by
    have hq:l=(A++L1)++L2++R1++(R2++B):=by rw [hl,hLs,hRs];simp
    rw [<-hq];exact s20
   refine .region<| .z 5 rfl ?_
   have A1:Sat w0 ([cL v 3 (a8 .i64) ((A++L1)++L2++R1++(R2++B))]++([]++cs)) _:=(Sat.order [0] (by decide) s23).cut 1
   refine .c 0 (NP _ _ _ _ _ (A++L1) (L2) (R1) (R2++B) (st) (m) (((mid+m)-st)) A1 (by rw [length_append];omega) (by omega) (by omega) (by omega) (by omega) (by simp only [length_append];omega)) rfl λ r4 w14 h4=> ?_
   obtain ⟨rfl,p4⟩:=h4
   have s24:Sat w0 ([cL v 3 (a8 .i64) ((A++L1)++R1++L2++(R2++B))]++cs) _:=p4
   refine .nil ?_
   have s25:Sat w0 ([cL v 3 (a8 .i64) (A++L1++R1++(L2++R2++B))]++cs) w14:=by
    have hq:(A++L1)++R1++L2++(R2++B)=A++L1++R1++(L2++R2++B):=by simp
    rw [<-hq];exact s24
   exact ⟨(wk rfl),s25⟩
  refine .skip ?_
  have s26:Sat w0 ([cL v 3 (a8 .i64) (A++L1++R1++(L2++R2++B))]++cs) w12:=by
   have hq:l=A++L1++R1++(L2++R2++B):=by rw [hl,hLs,hRs];(rcases (show L2.length=0\/R1.length=0 by omega) with h0|h0)<;>simp [eq_nil_of_length_eq_zero h0]
   rw [<-hq];exact s20
  exact ⟨(wk rfl),s26⟩
 rintro L' w15 ⟨hw2,s27⟩
 refine .weaken _ hw2<| .jn [0,1,2,3,4,18,20,24] rfl (λ K L' w'=>∃ (M1:List Nat),Weak K L'/\Sat w0 ([cL v 3 (a8 .i64) (A++M1++(L2++R2++B))]++cs) w'/\(Srt key M1)/\(Stb key (L1++R1) M1)) ?_ ?_
 ·refine .seq<| .bH 199 ((a<st)/\(st<mid)) ?_ ?_
  ·refine .z 4 rfl<| .B 195 rfl (λ g2=> ?_) λ g2=> ?_
   ·refine .M rfl (by simp [g2])
   refine .M rfl (by simp [g2])
  refine .ab rfl (λ c13=> ?_) λ c13=> ?_
  ·refine .region<| .z 5 rfl ?_
   have A2:Sat w0 ([cL v 3 (a8 .i64) (A++L1++R1++(L2++R2++B))]++([]++cs)) _:=(Sat.order [0] (by decide) s27).cut 1
   refine .c 0 (IH _ (A) (L1) (R1) (L2++R2++B) (a) (st) (mid) (by omega) (A2) (ha) (by omega) (by omega) (hs1) (hs3) (by omega) (by omega) (hp0) (by simp only [length_append];omega)) rfl λ r5 _ h5=> ?_
   obtain ⟨rfl,M1,p5,hM1,hS1⟩:=h5
   have s28:Sat w0 ([cL v 3 (a8 .i64) (A++M1++(L2++R2++B))]++cs) _:=p5
   refine .nil ?_
   exact ⟨M1,(wk rfl),s28,hM1,hS1⟩
  refine .skip ?_
  have s29:Sat w0 ([cL v 3 (a8 .i64) (A++(L1++R1)++(L2++R2++B))]++cs) w15:=by
   have hq:A++L1++R1++(L2++R2++B)=A++(L1++R1)++(L2++R2++B):=by simp
   rw [<-hq];exact s27
  exact ⟨L1++R1,(wk rfl),s29,Srt.or (by omega) hs1 hs3,Stb.refl _⟩
 rintro L' w17 ⟨M1,hw3,s30,hM1,hS1⟩
 refine .weaken _ hw3<| .seq<| .bH 213 ((mid<((mid+m)-st))/\(((mid+m)-st)<b)) ?_ ?_
 ·refine .z 4 rfl<| .B 209 rfl (λ g3=> ?_) λ g3=> ?_
  ·refine .M rfl (by simp [g3])
  refine .M rfl (by simp [g3])
 refine .ab rfl (λ c14=> ?_) λ c14=> ?_
 ·have s31:Sat w0 ([cL v 3 (a8 .i64) ((A++M1)++L2++R2++B)]++cs) w17:=by
   have hq:A++M1++(L2++R2++B)=(A++M1)++L2++R2++B:=by simp
   rw [<-hq];exact s30
  refine .region<| .z 5 rfl ?_
  have A3:Sat w0 ([cL v 3 (a8 .i64) ((A++M1)++L2++R2++B)]++([]++cs)) _:=(Sat.order [0] (by decide) s31).cut 1
  refine .c 0 (IH _ (A++M1) (L2) (R2) (B) (mid) (((mid+m)-st)) (b) (by omega) (A3) (by have:=hS1.length;simp only [length_append] at this⊢;omega) (by omega) (by omega) (hs2) (hs4) (by omega) (by omega) (λ x hx=>hp0 x (by have:=hS1.mem (x:=x);simp only [mem_append] at hx this⊢;grind)) (by have:=hS1.length;simp only [length_append] at this⊢;omega)) rfl λ r6 w18 h6=> ?_
  obtain ⟨rfl,M2,p6,hM2,hS2⟩:=h6
  have s32:Sat w0 ([cL v 3 (a8 .i64) ((A++M1)++M2++B)]++cs) _:=p6
  refine .nil ?_
  show aK _ _ _ _ _ _
  refine bt rfl ?_
  obtain ⟨hf1,hf2⟩:=rJ hLs hRs hne hle hM1 hM2 hS1 hS2
  have s33:Sat w0 ([cL v 3 (a8 .i64) (A++(M1++M2)++B)]++cs) w18:=by
   have hq:(A++M1)++M2++B=A++(M1++M2)++B:=by simp
   rw [<-hq];exact s32
  exact ⟨rfl,_,s33,hf1,hf2⟩
 refine .skip ?_
 show aK _ _ _ _ _ _
 refine bt rfl ?_
 obtain ⟨hf1,hf2⟩:=rJ hLs hRs hne hle hM1 (Srt.or (by omega) hs2 hs4) hS1 (Stb.refl _)
 have s34:Sat w0 ([cL v 3 (a8 .i64) (A++(M1++(L2++R2))++B)]++cs) w17:=by
  have hq:A++M1++(L2++R2++B)=A++(M1++(L2++R2))++B:=by simp
  rw [<-hq];exact s30
 exact ⟨rfl,_,s34,hf1,hf2⟩
theorem L4 (w0 w:World) (cs:List Chunk) (v:Value) (key:Nat->Nat) (D:Nat->Prop) (fi:FuncId) (cap:Array Value) (hE:Enters prog fi) (hcmp:l8 prog fi cap (λ x:Nat=>Value.int .i64 (x:Int)) key D w0 cs) (A L R B:List Nat) (a m b:Nat) (hs:Sat w0 ([cL v 3 (a8 .i64) (A++L++R++B)]++cs) w) (ha:a=A.length) (hm:m=a+L.length) (hb:b=m+R.length) (hL:Srt key L) (hR:Srt key R) (hL0:0<L.length) (hR0:0<R.length) (hD:∀ x∈A++L++R++B,D x) (hn:(A++L++R++B).length<=1000000000000):
  CallsV prog 286 [v,(.int .i64 (a:Int)),(.int .i64 (m:Int)),(.int .i64 (b:Int)),(.func (.func fi) #[] cap)] w (λ r w'=>r= .tuple #[]/\∃ M,Sat w0 ([cL v 3 (a8 .i64) (A++M++B)]++cs) w'/\Srt key M/\Stb key (L++R) M):=by
 suffices H:∀ k (w:World) (A L R B:List Nat) (a m b:Nat),L.length+R.length=k->Sat w0 ([cL v 3 (a8 .i64) (A++L++R++B)]++cs) w->a=A.length->m=a+L.length->b=m+R.length->Srt key L->Srt key R->0<L.length->0<R.length->(∀ x∈A++L++R++B,D x)->(A++L++R++B).length<=1000000000000->CallsV prog 286 [v,(.int .i64 (a:Int)),(.int .i64 (m:Int)),(.int .i64 (b:Int)),(.func (.func fi) #[] cap)] w (λ r w'=>r= .tuple #[]/\∃ M,Sat w0 ([cL v 3 (a8 .i64) (A++M++B)]++cs) w'/\Srt key M/\Stb key (L++R) M) from
  H _ w A L R B a m b rfl hs ha hm hb hL hR hL0 hR0 hD hn
 intro k
 induction k using Nat.strongRecOn with
 |_ k ih=>
  intro w A L R B a m b hk hs ha hm hb hL hR hL0 hR0 hD hn
  exact AI w0 w cs v key D fi cap hE hcmp k (λ w A L R B a m b h1=>ih _ h1 w A L R B a m b rfl) A L R B _ rfl a m b hk.symm hs ha hm hb hL hR hL0 hR0 hD hn
theorem NQ (w0 w:World) (cs:List Chunk) (v:Value) (l:List Nat) (n:Nat) (key:Nat->Nat) (D:Nat->Prop) (fi:FuncId) (cap:Array Value) (hE:Enters prog fi) (hcmp:l8 prog fi cap (λ x:Nat=>Value.int .i64 (x:Int)) key D w0 cs) (hs:Sat w0 ([cL v 3 (a8 .i64) (l)]++cs) w) (hD:∀ x∈l,D x) (hnl:n=l.length) (hn:l.length<=1000000000000):
  CallsV prog 284 [v,(.int .i64 n),(.func (.func fi) #[] cap)] w λ r w'=>r= .tuple #[]/\Sat w0 ([cL v 3 (a8 .i64) (dJ key l)]++cs) w':=by
 refine ae func284 rfl rfl ?_
 refine .Z rfl<| .Z rfl<| .seq<| .block<| .lq [0,1,2,6] rfl (α:=List Nat×List Nat) (λ (Pre,Suf)=>[(7,(.int .i64 Pre.length)),(8,(.int .i64 ((Pre.length+20):Nat)))]) (λ (Pre,Suf) w'=>Sat w0 ([cL v 3 (a8 .i64) (Pre++Suf)]++cs) w'/\(Full key 20 Pre)/\(Stb key l (Pre++Suf))) (λ (Pre,Suf)=>Suf.length) ([],l) ⟨hs,.nil,Stb.refl _⟩ ?_
 rintro ⟨Pre,Suf⟩ w1 ⟨s1,hF,hT⟩
 have hlT:=hT.length
 rw [length_append] at hlT
 refine .seq<| .Z rfl<| .ab rfl (λ c1=> ?_) λ c1=> ?_
 ·refine .skip<| .block<| .h<| .z 4 rfl ?_
  have A1:Sat w0 ([cL v 3 (a8 .i64) (Pre++Suf)]++([]++cs)) _:=(Sat.order [0] (by decide) s1).cut 1
  refine .c 0 (KZ w0 _ cs v (Pre++Suf) (Pre.length) ((Pre.length+20)) key D fi cap hE hcmp A1 (λ x hx=>hD x (hT.mem.2 hx)) (by simp) (by rw [length_append];omega) (by rw [length_append];omega)) rfl λ r1 w2 h1=> ?_
  obtain ⟨rfl,p1⟩:=h1
  have s2:Sat w0 ([cL v 3 (a8 .i64) (cP key Pre.length (Pre++Suf) ((Pre.length+20)-Pre.length-1))]++cs) _:=p1
  refine .nil ?_
  obtain ⟨S',hS1,hS2,hS3,hS4⟩:=zl hF hT (by omega)
  have s3:Sat w0 ([cL v 3 (a8 .i64) (Pre++S'++Suf.drop 20)]++cs) w2:=by
   have hq:cP key Pre.length (Pre++Suf) ((Pre.length+20)-Pre.length-1)=Pre++S'++Suf.drop 20:=hS1
   rw [<-hq];exact s2
  refine .Z rfl<| .U rfl ?_
  exact ⟨(Pre++S',Suf.drop 20),⟨congrArg some (congrArg (Value.int .i64) (by simp [hS4])),congrArg some (congrArg (Value.int .i64) (by simp [hS4])),rfl,rfl,rfl,rfl,trivial⟩,⟨s3,hS2,hS3⟩,(show ((Suf.drop 20).length)<(Suf.length) from by simp only [length_drop];omega)⟩
 refine .ao<| .h<| .z 4 rfl ?_
 have A2:Sat w0 ([cL v 3 (a8 .i64) (Pre++Suf)]++([]++cs)) _:=(Sat.order [0] (by decide) s1).cut 1
 refine .c 0 (KZ w0 _ cs v (Pre++Suf) (Pre.length) (n) key D fi cap hE hcmp A2 (λ x hx=>hD x (hT.mem.2 hx)) (by simp) (by rw [length_append];omega) (by rw [length_append];omega)) rfl λ r2 _ h2=> ?_
 obtain ⟨rfl,p2⟩:=h2
 have s4:Sat w0 ([cL v 3 (a8 .i64) (cP key Pre.length (Pre++Suf) (n-Pre.length-1))]++cs) _:=p2
 refine .nil ?_
 obtain ⟨hB0,hT0⟩:=CH (n:=n) hF hT (by omega) hnl
 refine .block<| .lq [0,1,2] rfl (α:=Nat×List Nat) (λ (bs,cur)=>[(6,(.int .i64 bs))]) (λ (bs,cur) w'=>Sat w0 ([cL v 3 (a8 .i64) (cur)]++cs) w'/\(0<bs)/\(bs<=2000000000020)/\(Blks key bs cur)/\(Stb key l cur)) (λ (bs,cur)=>n-bs) (20,cP key Pre.length (Pre++Suf) (n-Pre.length-1)) ⟨s4,by omega,by omega,hB0,hT0⟩ ?_
 rintro ⟨bs,cur⟩ w4 ⟨s5,hbs,hbs2,hB,hTc⟩
 refine .seq<| .Z rfl<| .ab rfl (λ c2=> ?_) λ c2=> ?_
 ·refine .skip<| .block<| .Z rfl<| .seq<| .block<| .lp [0,1,2,6] rfl (α:=List Nat×List Nat) (λ (Pre,Suf)=>[(7,(.int .i64 Pre.length)),(8,(.int .i64 ((Pre.length+2*bs):Nat)))]) (λ (Pre,Suf) w'=>Sat w0 ([cL v 3 (a8 .i64) (Pre++Suf)]++cs) w'/\(Full key (2*bs) Pre)/\(Blks key bs Suf)/\(Stb key l (Pre++Suf))) (λ (Pre,Suf)=>Suf.length) ([],cur) ⟨rfl,congrArg some (congrArg (Value.int .i64) (by simp)),rfl,rfl,rfl,rfl,trivial⟩ ⟨s5,.nil,hB,hTc⟩ ?_
  rintro ⟨Pre,Suf⟩ w5 ⟨s6,hF,hBs,hTi⟩
  have hlT:=hTi.length
  rw [length_append] at hlT
  refine .seq<| .Z rfl<| .ab rfl (λ c3=> ?_) λ c3=> ?_
  ·refine .skip<| .block<| .seq ?_
   have hlT:=hTi.length
   rw [length_append] at hlT
   obtain ⟨L,R,B,hSuf,hLl,hRl,hLs,hRs,hBB⟩:=hBs.two (by omega) hbs
   have s7:Sat w0 ([cL v 3 (a8 .i64) (Pre++L++R++B)]++cs) w5:=by
    have hq:Pre++Suf=Pre++L++R++B:=by rw [hSuf];simp
    rw [<-hq];exact s6
   refine .region<| .z 7 rfl ?_
   have A3:Sat w0 ([cL v 3 (a8 .i64) (Pre++L++R++B)]++([]++cs)) _:=(Sat.order [0] (by decide) s7).cut 1
   refine .c 0 (L4 w0 _ cs v key D fi cap hE hcmp (Pre) (L) (R) (B) (Pre.length) ((Pre.length+bs)) ((Pre.length+2*bs)) (A3) (rfl) (by omega) (by omega) (hLs) (hRs) (by omega) (by omega) (λ x hx=>hD x (hTi.mem.2 (by rw [hSuf];simpa using hx))) (by have h:=congrArg List.length hSuf;simp only [length_append] at h⊢;omega)) rfl λ r3 _ h3=> ?_
   obtain ⟨rfl,M,p3,hM,hS⟩:=h3
   have s8:Sat w0 ([cL v 3 (a8 .i64) (Pre++M++B)]++cs) _:=p3
   refine .nil ?_
   obtain ⟨hm1,hm2,hm3⟩:=zm hF hTi hSuf hLl hRl hM hS
   refine .Z rfl<| .U rfl ?_
   exact ⟨(Pre++M,B),⟨congrArg some (congrArg (Value.int .i64) (by simp [hm3])),congrArg some (congrArg (Value.int .i64) (by simp [hm3])),rfl,rfl,rfl,rfl,trivial⟩,⟨s8,hm1,hBB,hm2⟩,(show ((B).length)<(Suf.length) from by rw [hSuf];simp only [length_append];omega)⟩
  refine .ao<| .seq<| .Z rfl<| .Z rfl<| .ab rfl (λ c4=> ?_) λ c4=> ?_
  ·obtain ⟨L,R,hSuf,hLl,hLs,hRs⟩:=hBs.split (by omega) (by omega)
   have hSufl:Suf.length=L.length+R.length:=by rw [hSuf,length_append]
   have s9:Sat w0 ([cL v 3 (a8 .i64) (Pre++L++R++[])]++cs) w5:=by
    have hq:Pre++Suf=Pre++L++R++[]:=by rw [hSuf];simp
    rw [<-hq];exact s6
   refine .region<| .z 5 rfl ?_
   have A4:Sat w0 ([cL v 3 (a8 .i64) (Pre++L++R++[])]++([]++cs)) _:=(Sat.order [0] (by decide) s9).cut 1
   refine .c 0 (L4 w0 _ cs v key D fi cap hE hcmp (Pre) (L) (R) ([]) (Pre.length) ((Pre.length+bs)) (n) (A4) (rfl) (by omega) (by omega) (hLs) (hRs) (by omega) (by omega) (λ x hx=>hD x (hTi.mem.2 (by rw [hSuf];simpa using hx))) (by simp only [length_append,length_nil];omega)) rfl λ r4 _ h4=> ?_
   obtain ⟨rfl,M,p4,hM,hS⟩:=h4
   have s10:Sat w0 ([cL v 3 (a8 .i64) (Pre++M++([]))]++cs) _:=p4
   refine .nil<| .U rfl ?_
   exact bc (bs*2,Pre++M++[]) ⟨s10,by omega,by omega,(rK hF hTi hSuf (by omega) hM hS).1,(rK hF hTi hSuf (by omega) hM hS).2⟩
  refine .skip<| .U rfl ?_
  exact bc (bs*2,Pre++Suf) ⟨s6,by omega,by omega,zn hF hBs (by omega),hTi⟩
 refine .ao ?_
 show aK _ _ _ _ _ _
 refine bt rfl ?_
 have s11:Sat w0 ([cL v 3 (a8 .i64) (dJ key l)]++cs) w4:=by
  have hq:cur=dJ key l:=nT (hB.PJ (by have:=hTc.length;omega)) hTc
  rw [<-hq];exact s5
 exact ⟨rfl,s11⟩
theorem NR (w0 w:World) (cs:List Chunk) (v:Value) (l:List Nat) (key:Nat->Nat) (D:Nat->Prop) (fi:FuncId) (cap:Array Value) (hE:Enters prog fi) (hcmp:l8 prog fi cap (λ x:Nat=>Value.int .i64 (x:Int)) key D w0 cs) (hs:Sat w0 ([cL v 3 (a8 .i64) (l)]++cs) w) (hD:∀ x∈l,D x) (hn:l.length<=1000000000000):
  CallsV prog 277 [v,(.func (.func fi) #[] cap)] w λ r w'=>r= .tuple #[]/\Sat w0 ([cL v 3 (a8 .i64) (dJ key l)]++cs) w':=by
 refine ae func277 rfl rfl ?_
 refine .region<| .ln 2 (hs.ah 0 rfl) rfl<| .z 1 rfl ?_
 have A1:Sat w0 ([cL v 3 (a8 .i64) (l)]++([]++cs)) _:=(Sat.order [0] (by decide) hs).cut 1
 refine .c 0 (NQ w0 _ cs v (l) (l.length) key D fi cap hE hcmp A1 hD rfl hn) rfl λ r1 _ h1=> ?_
 obtain ⟨rfl,p1⟩:=h1
 have s1:Sat w0 ([cL v 3 (a8 .i64) (dJ key (l))]++cs) _:=p1
 refine .nil ?_
 show aK _ _ _ _ _ _
 refine bt rfl ?_
 exact ⟨rfl,s1⟩
theorem IM (a b:It) (w:World) (ha:a.w<2^62) (hb:b.w<2^62):
  CallsV prog 261 [((aA).ag a),((aA).ag b)] w λ r w'=>∃ z:Int,r= .int .i64 z/\(z<0↔a.w<b.w)/\Sat w [] w':=by
 refine cc func261 rfl λ hs0=> .h<| .bx 0 hs0 rfl λ b1 _ s1 _ _=> .bx 0 s1 rfl λ b2 _ s2 _ _=> .Z rfl<| .h<| .ld 1 s2 0 rfl<| .ld 1 s2 1 rfl<| .e rfl (.sub rfl rfl (by unfold bo;omega))<| .Z rfl<| .aC rfl rfl ?_
 exact ⟨_,rfl,by omega,s2.pk []⟩
theorem IP (a b:It) (w:World) (ha:a.w<2^62) (hb:b.w<2^62):
  CallsV prog 263 [((aA).ag a),((aA).ag b)] w λ r w'=>∃ z:Int,r= .int .i64 z/\(z<0↔a.w<b.w)/\Sat w [] w':=by
 refine cc func263 rfl λ hs0=> .h<| .bx 0 hs0 rfl λ b1 _ s1 _ _=> .bx 0 s1 rfl λ b2 _ s2 _ _=> .Z rfl<| .h<| .ld 1 s2 0 rfl<| .ld 1 s2 1 rfl<| .e rfl (.sub rfl rfl (by unfold bo;omega))<| .Z rfl<| .aC rfl rfl ?_
 exact ⟨_,rfl,by omega,s2.pk []⟩
theorem DE (v:Value) (c:List Nat) (w:World) (hv:RdL w v (a8 .i64) c) (hn:c.length<=1024) (hc:∀ x∈c,x<=4096):
  CallsV prog 229 [v,(.int .i64 (15:Nat))] w λ r w'=>r= .int .i64 0/\Sat w [] w':=by
 refine cc func229 rfl λ hs0=> .Z rfl<| .seq<| .block<| .seq<| .bH 8 ((15<1)\/(15<15)) ?_ ?_
 ·refine .M rfl (by simp [])
 refine .ak rfl (decide_eq_false (by omega))<| .h<| .ln 1 (hv.ext hs0.ext) rfl<| .Z rfl<| .ak rfl (decide_eq_false (by omega))<| .skip<| .Z rfl<| .seq<| .h<| .ln 1 (hv.ext hs0.ext) rfl<| .Z rfl<| .block<| .lq [1,19,20] rfl (α:=Nat×Nat) (λ (k,p)=>[(5,(.int .i64 p)),(21,(.int .i64 k))]) (λ (k,p) w'=>Sat w [] w'/\(k<=c.length)/\(p<=k)) (λ (k,p)=>c.length-k) (0,0) ⟨hs0,Nat.zero_le _,Nat.le_refl _⟩ ?_
 rintro ⟨k,p⟩ w1 ⟨s1,hk,hp⟩
 refine .Z rfl<| .seq<| .ab rfl (λ c1=> ?_) λ c1=> ?_
 ·refine .skip<| .seq<| .block<| .seq ?_
  obtain ⟨x,hx⟩:∃ x,(c)[k]? =some x:=⟨_,getElem?_eq_getElem c1⟩
  refine .region<| .ix 0 (hv.ext s1.ext) rfl<| .le 0 (hv.ext s1.ext) hx rfl<| .Z rfl<| .seq<| .seq<| .bH 30 ((x<0)\/(4096<x)) ?_ ?_
  ·refine .z 3 rfl<| .B 27 rfl (λ g1=> ?_) λ g1=> ?_
   ·refine .M rfl (by simp [g1])
   refine .M rfl (by simp [g1])
  refine .ak rfl (decide_eq_false (by have:=hc x (aa hx);omega))<| .skip<| .Z rfl<| .ab rfl (λ c2=> ?_) λ c2=> ?_
  ·refine .U rfl<| .U rfl ?_
   exact bc (k+1,(p+1)) ⟨s1,by omega,by omega⟩
  refine .skip<| .U rfl ?_
  exact bc (k+1,p) ⟨s1,by omega,by omega⟩
 refine .ao<| .seq<| .h<| .a 2 rfl (.Nz (a:=1) (b:=15) rfl rfl (by omega) (by omega))<| .Z rfl<| .ak rfl (decide_eq_false (by omega))<| .skip<| .Z rfl<| .aC rfl rfl ?_
 exact ⟨rfl,s1⟩
theorem yg (v:Value) (l:List Nat) (w:World) (hv:RdL w v (a8 .i64) l) (hn:l.length<=1024):
  CallsV prog 232 [v] w λ r w'=>r= .bool (ep l)/\Sat w [] w':=by
 refine cc func232 rfl λ hs0=> .Z rfl<| .seq<| .h<| .ln 1 (hv.ext hs0.ext) rfl<| .Z rfl<| .ak rfl (decide_eq_false (by omega))<| .skip<| .Z rfl<| .seq<| .h<| .ln 1 (hv.ext hs0.ext) rfl<| .Z rfl<| .block<| .lq [9,10] rfl (α:=Nat×Nat) (λ (k,s)=>[(3,(.int .i64 s)),(11,(.int .i64 k))]) (λ (k,s) w'=>Sat w [] w'/\(k<=l.length)/\(s=jw (l.take k))/\(s<=k*2^14)/\(∀ x∈l.take k,x<=15)) (λ (k,s)=>l.length-k) (0,0) ⟨hs0,Nat.zero_le _,rfl,Nat.zero_le _,by simp⟩ ?_
 rintro ⟨k,s⟩ w1 ⟨s1,hk,hsum,hsb,hall⟩
 refine .Z rfl<| .seq<| .ab rfl (λ c1=> ?_) λ c1=> ?_
 ·refine .skip<| .seq<| .block<| .seq ?_
  obtain ⟨x,hx⟩:∃ x,(l)[k]? =some x:=⟨_,getElem?_eq_getElem c1⟩
  refine .region<| .ix 0 (hv.ext s1.ext) rfl<| .le 0 (hv.ext s1.ext) hx rfl<| .Z rfl<| .seq<| .seq<| .bH 20 ((x<0)\/(15<x)) ?_ ?_
  ·refine .z 3 rfl<| .B 17 rfl (λ g1=> ?_) λ g1=> ?_
   ·refine .M rfl (by simp [g1])
   refine .M rfl (by simp [g1])
  refine .ab rfl (λ c2=> ?_) λ c2=> ?_
  ·refine .Z rfl<| .aC rfl rfl ?_
   exact ⟨by rw [Bw (aa hx) (by omega)],s1⟩
  refine .skip<| .Z rfl<| .ab rfl (λ c3=> ?_) λ c3=> ?_
  ·have h2:2^(15-x)<=2^14:=Nat.pow_le_pow_right (by decide) (by omega)
   refine .region<| .a 3 rfl (.Nz (a:=1) rfl rfl (by omega) (by omega))<| .Z rfl<| .U rfl ?_
   exact bc (k+1,(s+(1*2^(15-x)))) ⟨s1,by omega,by rw [au hx,jV,<-hsum];simp [jw,kr,c3],by omega,all_take hall hx (by omega)⟩
  refine .skip<| .U rfl ?_
  exact bc (k+1,s) ⟨s1,by omega,by rw [au hx,jV,<-hsum];simp [jw,kr,c3],by omega,all_take hall hx (by omega)⟩
 refine .ao<| .Z rfl<| .aC rfl rfl ?_
 rw [show k=l.length by omega,take_length] at hsum hall
 exact ⟨by rw [Eo hall,hsum],s1⟩
theorem F7 (v:Value) (l:List It) (w:World) (hv:RdL w v aA l) (hn:l.length<=1000000) (h0:0<l.length):
  CallsV prog 262 [v] w λ r w'=>Sat w [cL r 288 aA l] w':=by
 refine cc func262 rfl λ hs0=> .Z rfl<| .seq<| .h<| .a 1 rfl (.Ni underlying285 rfl rfl (RdL.iR (E:=aA) (hv.ext hs0.ext) (by decide)) (by omega))<| .nil<| .ak rfl (rfl)<| .skip<| .h<| .f rfl (.l7 (aA) ig hs0 λ v1 _ s1 _=> ?_)
 refine .ap 1 s1 0 (hv.ext s1.ext) rfl λ v2 _ s2 _=> .Z rfl<| .aC rfl rfl ?_
 exact s2
theorem yh (v:Value) (c:List Nat) (w:World) (hv:RdL w v (a8 .i64) c) (hn:c.length<=1024) (hc:∀ x∈c,x<=4096):
  CallsV prog 230 [v] w λ r w'=>Sat w [cL r 288 aA (leaves c)] w':=by
 refine cc func230 rfl λ hs0=> .Z rfl<| .Z rfl<| .seq<| .h<| .ln 1 (hv.ext hs0.ext) rfl<| .Z rfl<| .block ?_
 have s1:=hs0.aH 288 (aA)
 refine .lq [6,7] rfl (α:=Nat×Value) (λ (k,ov)=>[(3,ov),(8,(.int .i64 k))]) (λ (k,ov) w'=>Sat w [cL ov 288 (aA) (bg 0 (c.take k))] w'/\(k<=c.length)) (λ (k,ov)=>c.length-k) (0,(.slice none 0 0)) ⟨s1,Nat.zero_le _⟩ ?_
 rintro ⟨k,ov⟩ w1 ⟨s2,hk⟩
 refine .Z rfl<| .seq<| .ab rfl (λ c1=> ?_) λ c1=> ?_
 ·refine .skip<| .seq<| .block<| .seq ?_
  obtain ⟨x,hx⟩:∃ x,(c)[k]? =some x:=⟨_,getElem?_eq_getElem c1⟩
  refine .region<| .ix 1 (hv.ext s2.ext) rfl<| .le 0 (hv.ext s2.ext) hx rfl<| .Z rfl<| .Z rfl<| .ab rfl (λ c2=> ?_) λ c2=> ?_
  ·have hll:=fo (c.take k) 0
   rw [length_take] at hll
   refine .region<| .a 3 rfl (.build LA rfl ⟨rfl,rfl,trivial⟩ rfl)<| .f rfl (.cD (aA) (⟨x,k,0,0⟩:It) ig (by decide) (by decide) s2 rfl λ v1 _ s3 _=> ?_)
   refine .ap 0 s3 0 (s3.ah 1 rfl) rfl λ v2 _ s4 _=> ?_
   refine .Z rfl<| .U rfl ?_
   have s5:=(s4.pk [0]).cF 0 rfl (show bg 0 (c.take k)++[(⟨x,k,0,0⟩:It)]=bg 0 (c.take (k+1)) from by rw [au hx,jW];simp [c2];try omega)
   exact bc (k+1,v2) ⟨s5,by omega⟩
  refine .skip<| .U rfl ?_
  have s6:=s2.cF 0 rfl (show bg 0 (c.take k)=bg 0 (c.take (k+1)) from by rw [au hx,jW];simp [c2];try omega)
  exact bc (k+1,ov) ⟨s6,by omega⟩
 refine .ao<| .seq ?_
 have s7:=s2.cF 0 rfl (show bg 0 (c.take k)=bg 0 c from by rw [show k=c.length by omega,take_length])
 refine .region<| .z 1 rfl ?_
 have A1:=s7.tail.oc [0] 1
 refine .c 0 (KX w _ _ ov (bg 0 c) (It.w) (λ x:It=>x.w<2^62) 261 #[] Nf (λ _ w _ a b ha hb=>IM a b w ha hb) A1 (λ x hx=>by have:=hc _ (j9 _ _ x hx).1;show x.w<2^62;omega) (by have:=fo c 0;omega)) rfl λ r1 _ h1=> ?_
 obtain ⟨rfl,p1⟩:=h1
 have s8:=(Sat.order [0] (by decide) p1.join).aF.nn
 refine .nil<| .Z rfl<| .aC rfl rfl ?_
 exact s8
theorem IQ (a b g:Nat) (v:Value) (l:List Nat) (w:World) (hc:w.cell? ⟨g,0,none⟩=some v) (hv:RdL w v (a8 .i64) l) (hb:∀ x∈l,x<2^62) (ha:a<l.length) (hb2:b<l.length):
  CallsV prog 278 [(.int .i64 a),(.int .i64 b),(.pointer (some ⟨g,0,none⟩))] w λ r w'=>∃ z:Int,r= .int .i64 z/\(z<0↔l.getD a 0<l.getD b 0)/\Sat w [] w':=by
 refine cc func278 rfl λ hs0=> .Z rfl<| .seq ?_
 obtain ⟨x,hx⟩:∃ x,(l)[a]? =some x:=⟨_,getElem?_eq_getElem (ha)⟩
 obtain ⟨y,hy⟩:∃ y,(l)[b]? =some y:=⟨_,getElem?_eq_getElem (hb2)⟩
 have h1:=hb x (aa hx)
 have h2:=hb y (aa hy)
 refine .dk [] hs0 rfl (pl [0,1,2,3,4,5,6,7,8,9] .fin) λ s1 S1=> .e rfl (λ _ s=> .load fI rfl (s.ext _ _ hc)) S1<| .ix 1 S1 (hv.ext ·.ext) rfl<| .le 0 S1 (hv.ext ·.ext) hx rfl<| .e rfl (λ _ s=> .load fI rfl (s.ext _ _ hc)) S1<| .ix 1 S1 (hv.ext ·.ext) rfl<| .le 0 S1 (hv.ext ·.ext) hy rfl<| .e rfl (λ _ s=> .sub rfl rfl (by unfold bo;omega)) S1<| .Z S1 rfl<| .aC rfl rfl ?_
 exact ⟨_,rfl,by rw [getD_eq_getElem?_getD,getD_eq_getElem?_getD,hx,hy];simp only [Option.getD_some];omega,s1.pk []⟩
theorem sx (v:Value) (l:List Nat) (w:World) (hv:RdL w v (a8 .i64) l) (hn:l.length<=1024) (hb:∀ x∈l,x<2^62):
  CallsV prog 264 [v] w λ r w'=>Sat w [cL r 3 (a8 .i64) (aX l)] w':=by
 refine cc func264 rfl λ hs0=> .h<| .bx 0 hs0 rfl λ b1 w1 s1 _ _=> ?_
 have s1d:Sat w [aj b1 22 [v]] w1:=by
  have hq:=cells_one ((hv.ext hs0.ext).a7)
  rw [hq] at s1;exact s1
 refine .Z rfl<| .Z rfl<| .seq<| .h<| .ld 0 s1d 0 rfl<| .ln 0 (hv.ext s1d.ext) rfl<| .Z rfl<| .block ?_
 have s2:=s1d.aH 3 (a8 .i64)
 refine .lq [1,6,7] rfl (α:=Nat×Value) (λ (k,ov)=>[(3,ov),(8,(.int .i64 k))]) (λ (k,ov) w'=>Sat w (s2.U [(1,cL ov 3 (a8 .i64) (bu 0 (l.take k)))]) w'/\(k<=l.length)) (λ (k,ov)=>l.length-k) (0,(.slice none 0 0)) ⟨s2,Nat.zero_le _⟩ ?_
 rintro ⟨k,ov⟩ w2 ⟨s3,hk⟩
 refine .Z rfl<| .seq<| .ab rfl (λ c1=> ?_) λ c1=> ?_
 ·refine .skip<| .seq<| .block<| .seq ?_
  obtain ⟨x,hx⟩:∃ x,(l)[k]? =some x:=⟨_,getElem?_eq_getElem c1⟩
  refine .region<| .ix 1 (hv.ext s3.ext) rfl<| .le 0 (hv.ext s3.ext) hx rfl<| .Z rfl<| .Z rfl<| .ab rfl (λ c2=> ?_) λ c2=> ?_
  ·have hll:=fp (l.take k) 0
   rw [length_take] at hll
   refine .region<| .b 2 rfl (.cM (a8 .i64) k bj rfl s3 rfl λ v1 _ s4 _=> ?_)
   refine .ap 0 s4 1 (s4.ah 2 rfl) rfl λ v2 _ s5 _=> ?_
   refine .Z rfl<| .U rfl ?_
   have s6:=(s5.pk [0,1]).cF 1 rfl (show bu 0 (l.take k)++[k]=bu 0 (l.take (k+1)) from by rw [au hx,jX];simp [c2];try omega)
   exact bc (k+1,v2) ⟨s6,by omega⟩
  refine .skip<| .U rfl ?_
  have s7:=s3.cF 1 rfl (show bu 0 (l.take k)=bu 0 (l.take (k+1)) from by rw [au hx,jX];simp [c2];try omega)
  exact bc (k+1,ov) ⟨s7,by omega⟩
 refine .ao<| .seq ?_
 have s8:=s3.cF 1 rfl (show bu 0 (l.take k)=bu 0 l from by rw [show k=l.length by omega,take_length])
 refine .region<| .a 1 rfl (.pT rfl) ?_
 have A1:=s8.tail.oc [1,0] 1
 refine .c 0 (NR w _ _ ov (bu 0 l) (ai l) (λ i=>i<l.length) 278 #[(.pointer (some ⟨b1,0,none⟩))] Nh (λ _ w' hq a b ha hb2=>IQ a b _ v l w' (hq.cell (i:=1) (j:=0) rfl rfl) (hv.ext hq.ext) hb ha hb2) A1 (λ x hx=>by have:=ja _ _ x hx;omega) (by have:=fp l 0;omega)) rfl λ r1 _ h1=> ?_
 obtain ⟨rfl,p1⟩:=h1
 have s9:=(Sat.order [1,0] (by decide) p1.join).aF.nn
 refine .nil<| .Z rfl<| .aC rfl rfl ?_
 exact s9.pk [1]
theorem sy (v:Value) (l:List Nat) (w:World) (hv:RdL w v (a8 .i64) l) (hn:l.length<=1024) (hb:∀ x∈l,x<=15):
  CallsV prog 233 [v] w λ r w'=>Sat w [cL r 132 (a8 .u64) (cV l)] w':=by
 refine cc func233 rfl λ hs0=> .Z rfl<| .seq ?_
 have hil:=fV l
 refine .region<| .ln 1 (hv.ext hs0.ext) rfl<| .f rfl (.ee (a8 .u64) (0) LB rfl hs0 rfl rfl (by omega) (by omega) (by omega) λ v1 _ s1 _=> ?_)
 refine .Z rfl<| .Z rfl<| .seq<| .h<| .c 1 (sx _ (l) _ (hv.ext s1.ext) (hn) (λ x hx=>by have:=hb x hx;omega)) rfl λ r1 _ h1=> ?_
 have s2:=s1.aD h1
 refine .ln 0 (s2.ah 1 rfl) rfl<| .Z rfl<| .block<| .lq [0,3,12,13] rfl (α:=Nat×Nat×Nat×List Nat) (λ (k,code,bef,cds)=>[(4,(.int .u64 code)),(5,(.int .i64 bef)),(14,(.int .i64 k))]) (λ (k,code,bef,cds) w'=>Sat w (s2.U [(0,cL v1 132 (a8 .u64) (cds))]) w'/\(k<=(aX l).length)/\(eG l ((aX l).take k)=(k,code,bef,cds))/\(code<2^64)/\(cds.length=l.length)/\(∀ j y,k<=j->(aX l)[j]? =some y->bef<=ai l y)) (λ (k,code,bef,cds)=>(aX l).length-k) (0,0,0,List.replicate l.length 0) ⟨s2,Nat.zero_le _,rfl,by omega,by simp,λ _ _ _ _=>Nat.zero_le _⟩ ?_
 rintro ⟨k,code,bef,cds⟩ w3 ⟨s3,hk,hst,hcd,hcl,hbef⟩
 refine .Z rfl<| .seq<| .ab rfl (λ c1=> ?_) λ c1=> ?_
 ·refine .skip<| .seq<| .block<| .seq ?_
  obtain ⟨x,hx⟩:∃ x,(aX (l))[k]? =some x:=⟨_,getElem?_eq_getElem (c1)⟩
  have hxm:=pC l x (aa hx)
  obtain ⟨n,hn1⟩:∃ n,l[x]? =some n:=⟨_,getElem?_eq_getElem hxm.1⟩
  have hnk:ai l x=n:=by simp [ai,getD_eq_getElem?_getD,hn1]
  have hbn:=hbef k x (Nat.le_refl _) hx
  have hn15:=hb n (aa hn1)
  refine .region<| .ix 1 (s3.ah 1 rfl) rfl<| .le 0 (s3.ah 1 rfl) hx rfl<| .Z rfl<| .seq<| .Z rfl<| .ab rfl (λ c2=> ?_) λ c2=> ?_
  ·refine .region<| .a 1 rfl (.Nk (b:=1) rfl rfl rfl)<| .ix 2 (hv.ext s3.ext) rfl<| .le 0 (hv.ext s3.ext) hn1 rfl<| .Z rfl<| .region<| .ix 5 (hv.ext s3.ext) rfl<| .le 0 (hv.ext s3.ext) hn1 rfl<| .ix 0 (s3.ah 0 rfl) rfl<| .f rfl (.dS (a:=(((code+1)%2^64)*2^(n-bef)%2^64)) 0 BO s3 rfl rfl rfl rfl (by omega) λ _ s4 _=> ?_)
   have s4:=s4.nn
   refine .Z rfl<| .U rfl ?_
   exact bc (k+1,(((code+1)%2^64)*2^(n-bef)%2^64),n,cds.set x (((code+1)%2^64)*2^(n-bef)%2^64)) ⟨s4,by omega,by rw [au hx,fc,hst];simp [jb,hnk,c2];try omega,by omega,by simp only [length_set];exact hcl,λ j y hj hy=>by rw [<-hnk];exact (cU _).get (by omega) hx hy⟩
  refine .skip<| .region<| .ix 5 (hv.ext s3.ext) rfl<| .le 0 (hv.ext s3.ext) hn1 rfl<| .ix 0 (s3.ah 0 rfl) rfl<| .f rfl (.dS (a:=code) 0 BO s3 rfl rfl rfl rfl (by omega) λ _ s5 _=> ?_)
  have s5:=s5.nn
  refine .Z rfl<| .U rfl ?_
  exact bc (k+1,code,n,cds.set x code) ⟨s5,by omega,by rw [au hx,fc,hst];simp [jb,hnk,c2];try omega,by omega,by simp only [length_set];exact hcl,λ j y hj hy=>by rw [<-hnk];exact (cU _).get (by omega) hx hy⟩
 refine .ao<| .Z rfl<| .aC rfl rfl ?_
 have s7:=(s3.pk [0]).cF 0 rfl (show cds=cV l from by unfold cV;rw [show aX l=(aX l).take k by rw [show k=(aX l).length by omega,take_length],hst])
 exact s7
theorem IS (v u:Value) (l b:List It) (W:Nat) (w:World) (hv:RdL w v aA l) (hu:RdL w u aA b) (hn:l.length<=4096) (hl0:0<l.length) (hbn:b.length<=8192) (hwl:∀ x∈l,x.w<=W) (hwb:∀ x∈b,x.w<=W) (hW:W<=2^50):
  CallsV prog 231 [v,u] w λ r w'=>Sat w [cL r 288 aA (iH l b)] w':=by
 refine cc func231 rfl λ hs0=> .Z rfl<| .h<| .c 1 (F7 _ (l) _ (hv.ext hs0.ext) (by omega) (by omega)) rfl λ r1 _ h_1=> ?_
 have s1:=hs0.aD h_1
 refine .Z rfl<| .seq<| .Z rfl<| .block ?_
 have s2:=s1.cF 0 rfl (show l=l++bz 0 (b.take (2*0)) from by simp [bz])
 refine .lq [1] rfl (α:=Nat×Value) (λ (q,ov)=>[(5,ov),(6,(.int .i64 ((2*q):Nat)))]) (λ (q,ov) w'=>Sat w [cL ov 288 (aA) (l++bz 0 (b.take (2*q)))] w'/\(2*q<=b.length)) (λ (q,ov)=>b.length-2*q) (0,r1) ⟨s2,Nat.zero_le _⟩ ?_
 rintro ⟨q,ov⟩ w2 ⟨s3,hq⟩
 refine .seq<| .h<| .ln 3 (hu.ext s3.ext) rfl<| .Z rfl<| .ab rfl (λ c1=> ?_) λ c1=> ?_
 ·refine .skip<| .seq<| .block ?_
  obtain ⟨x,hx⟩:∃ x,(b)[(2*q)]? =some x:=⟨_,getElem?_eq_getElem (by omega)⟩
  obtain ⟨y,hy⟩:∃ y,(b)[((2*q)+1)]? =some y:=⟨_,getElem?_eq_getElem (by omega)⟩
  have h1:=hwb x (aa hx)
  have h2:=hwb y (aa hy)
  have hpl:=eI 0 (b.take (2*q))
  rw [length_take] at hpl
  have hshp1:=(s3.ah (E:=aA) 0 rfl).iR (by decide)
  refine .dk [] s3 rfl (pl [0,1,2,3,4,5,6,7,8,9,10,11,12,13,14,15,16,1017,1018,19] .fin) λ s4 S1=> .ix 3 S1 (hu.ext ·.ext) rfl<| .fl 0 S1 (hu.ext ·.ext) rfl<| .lf 0 S1 (hu.ext ·.ext) hx rfl<| .ix 3 S1 (hu.ext ·.ext) rfl<| .fl 0 S1 (hu.ext ·.ext) rfl<| .lf 0 S1 (hu.ext ·.ext) hy rfl<| .z 4 S1 rfl<| .e rfl (λ _ s=> .build LA rfl ⟨rfl,rfl,rfl,rfl,trivial⟩ rfl) S1<| .f rfl (.cD (aA) (⟨x.w+y.w,-1,2*q,2*q+1⟩:It) ig (by decide) (by decide) s4 rfl λ v1 _ s5 _=> ?_)
  have s5:=s5.nn
  have S2:=s5.pk []
  refine ⟨S2,?_⟩
  refine .f rfl (.aL 0 ig s5 rfl rfl rfl underlying285 (s5.ah 1 rfl) (by simp;omega) (by simp;omega) λ v2 _ s6 _=> ?_)
  have s6:=s6.pk [0]
  have S3:=s6.pk []
  refine ⟨S3,?_⟩
  refine .Z S3 rfl<| .U rfl ?_
  have s7:=s6.cF 0 rfl (show l++bz 0 (b.take (2*q))++[(⟨x.w+y.w,-1,2*q,2*q+1⟩:It)]=l++bz 0 (b.take (2*(q+1))) from by rw [tU q 0 b x y hx hy];simp)
  exact bc (q+1,v2) ⟨s7,by omega⟩
 refine .ao<| .seq ?_
 have s8:=s3.cF 0 rfl (show l++bz 0 (b.take (2*q))=l++bz 0 b from by rw [vZ q 0 b (by omega)])
 refine .region<| .z 1 rfl ?_
 have A1:=s8.tail.oc [0] 1
 refine .c 0 (KX w _ _ ov (l++bz 0 b) (It.w) (λ x:It=>x.w<2^62) 263 #[] Ng (λ _ w _ a b ha hb=>IP a b w ha hb) A1 (λ x hx=>by show x.w<2^62;rcases mem_append.1 hx with hx|hx;(have:=hwl x hx;omega);(have:=(pD 0 b W hwb x hx).1;omega)) (by rw [length_append,eI];omega)) rfl λ r2 _ h_2=> ?_
 obtain ⟨rfl,p2⟩:=h_2
 have s9:=(Sat.order [0] (by decide) p2.join).aF.nn
 refine .nil<| .Z rfl<| .aC rfl rfl ?_
 exact s9
set_option maxHeartbeats 2000000 in
theorem AJ (v:Value) (c:List Nat) (w:World) (hv:RdL w v (a8 .i64) c) (hn:c.length<=1024) (hc:∀ x∈c,x<=4096):
  CallsV prog 188 [v,(.int .i64 (15:Nat))] w λ r w'=>∃ v',r= .tuple #[v',.int .i64 0]/\Sat w [cL v' 3 (a8 .i64) (cW c)] w':=by
 refine cc func188 rfl λ hs0=> .Z rfl<| .seq<| .h<| .cp 2 hs0 (DE _ (c) _ (hv.ext hs0.ext) (hn) (hc)) rfl λ _ s1=> .Z rfl<| .Z rfl<| .ak rfl (rfl)<| .skip<| .seq ?_
 have hll0:=eb c
 refine .region<| .ln 1 (hv.ext s1.ext) rfl<| .f rfl (.ee (a8 .i64) (0) bj rfl s1 rfl rfl (by omega) (by omega) (by omega) λ v1 _ s2 _=> ?_)
 refine .Z rfl<| .h<| .c 1 (yh _ (c) _ (hv.ext s2.ext) (hn) (hc)) rfl λ r2 _ h_2=> ?_
 have s3:=(s2.aD h_2).nn
 obtain ⟨sv1,hsv1,hsv1n⟩:=(s3.ah 1 rfl).sv
 subst hsv1
 refine .Z rfl<| .seq<| .h<| .ln 1 (s3.ah 1 rfl) rfl<| .Z rfl<| .ab rfl (λ c1=> ?_) λ c1=> ?_
 ·refine .seq<| .h<| .ln 1 (s3.ah 1 rfl) rfl<| .Z rfl<| .block<| .lq [7,31,32] rfl (α:=Nat×List Nat) (λ (q,cur)=>[(33,(.int .i64 q))]) (λ (q,cur) w'=>Sat w (s3.U [(0,cL v1 3 (a8 .i64) (cur))]) w'/\(q<=(leaves c).length)/\(cur=((leaves c).take q).foldl (λ ls x=>ls.set x.sym.toNat 1) (List.replicate c.length 0))/\(cur.length=c.length)) (λ (q,cur)=>(leaves c).length-q) (0,List.replicate c.length 0) ⟨s3,Nat.zero_le _,rfl,by simp⟩ ?_
  rintro ⟨q,cur⟩ w4 ⟨s4,hq,hcur,hcl⟩
  refine .Z rfl<| .seq<| .ab rfl (λ c2=> ?_) λ c2=> ?_
  ·refine .skip<| .seq<| .block<| .seq ?_
   obtain ⟨x,hx⟩:∃ x,(leaves c)[q]? =some x:=⟨_,getElem?_eq_getElem (c2)⟩
   obtain ⟨hxw,n,hxs,hxn⟩:=de c x (aa hx)
   have hnl:=ch hxn
   refine .region<| .ix 0 (s4.ah 1 rfl) rfl<| .lg 0 (s4.ah 1 rfl) hx rfl<| .al 0 s4 rfl λ b1 _ s5 _ _=> .sa 0 s5 2 rfl ((aA).one _) λ w6 s6 _=> .nil ?_
   have s7:Sat w [cL v1 3 (a8 .i64) (cur),cL sv1.val 288 (aA) (leaves c),aj b1 288 [(.int .i64 x.w),(.int .i64 n),(.int .i64 x.lf),(.int .i64 x.rt)]] w6:=by have hq:=s6;(try dsimp only [aA] at hq);rw [hxs] at hq;exact hq
   refine .region<| .ld 2 s7 2 rfl<| .ix 0 (s7.ah 0 rfl) rfl<| .f rfl (.dS (a:=1) 0 dj s7 rfl rfl rfl rfl (by (try simp only [length_set]);omega) λ _ s8 _=> ?_)
   have s8:=s8.nn
   refine .nil<| .U rfl ?_
   exact bc (q+1,cur.set n 1) ⟨s8.pk [0,1],by omega,by rw [au hx,foldl_append,<-hcur];simp [hxs],by simp only [length_set];exact hcl⟩
  refine .ao<| .Z rfl<| .bG rfl rfl rfl ?_
  have s11:=(s4.pk [0]).cF 0 rfl (show cur=cW c from by rw [hcur,show q=(leaves c).length by omega,take_length];unfold cW;rw [if_pos c1])
  exact ⟨_,rfl,s11⟩
 refine .skip<| .h<| .b 1 rfl (.cM (bK It) (sv1,leaves c) HS rfl s3 rfl λ v2 w8 s12 _=> ?_)
 refine .Z rfl<| .seq<| .Z rfl<| .block ?_
 have s13:=(Sat.order [0,2,1] (by decide) s12.tail).aF.pk [0,1,2]
 have s14:Sat w [cL v1 3 (a8 .i64) (List.replicate (c.length) 0),cL v2 285 (bK It) ([(sv1,leaves c)]),bm 288 aA ([]),cL sv1.val 288 (aA) (leaves c)] _:=Sat.order [0,1,3,2] (by decide) (s13.xS 164 aA).tail|>.aF
 have s15:Sat w [cL v1 3 (a8 .i64) (List.replicate (c.length) 0),cL v2 285 (bK It) ([(sv1,leaves c)]),bm 288 aA ([]++[(sv1,leaves c)])] w8:=Sat.uw (A:=[cL v1 3 (a8 .i64) (List.replicate (c.length) 0),cL v2 285 (bK It) ([(sv1,leaves c)]),bm 288 aA ([])]) s14 2 rfl
 refine .lq [7,8] rfl (α:=Nat×Value×List (SV×List It)) (λ (k,ov,ps)=>[(11,ov),(46,(.int .i64 (14:Nat))),(47,(.int .i64 k))]) (λ (k,ov,ps) w'=>Sat w (s15.U [(1,cL ov 285 (bK It) (ps)),(2,bm 288 aA (ps))]) w'/\(k<=14)/\(ps.map Prod.snd=zo c (k+1))/\(ps[0]? =some (sv1,leaves c))) (λ (k,ov,ps)=>14-k) (0,v2,[(sv1,leaves c)]) ⟨s15,Nat.zero_le _,rfl,rfl⟩ ?_
 rintro ⟨k,ov,ps⟩ w9 ⟨s16,hk,hps,hp0⟩
 have hpl:ps.length=k+1:=by have:=congrArg List.length hps;simpa [zo] using this
 refine .Z rfl<| .seq<| .ab rfl (λ c3=> ?_) λ c3=> ?_
 ·refine .skip<| .seq<| .block ?_
  obtain ⟨p,hp⟩:∃ p,(ps)[(ps.length-1)]? =some p:=⟨_,getElem?_eq_getElem (by omega)⟩
  have hp2:p.2=lvl c k:=by
   have h1:(ps.map Prod.snd)[k]? =some p.2:=by rw [getElem?_map,show k=ps.length-1 by omega,hp]<;>rfl
   rw [hps,zp c (by omega:k<k+1)] at h1;exact (Option.some.inj h1).symm
  have hW:4096*2^k<=2^50:=by have:2^k<=2^14:=Nat.pow_le_pow_right (by decide) (by omega);omega
  have hW1:4096<=4096*2^k:=Nat.le_mul_of_pos_right _ (Nat.two_pow_pos k)
  have hlv:=mc c k
  have hll:=eb c
  refine .region<| .ln 4 (s16.ah 1 rfl) rfl<| .ix 1 (s16.ah 1 rfl) rfl<| .le 0 (s16.ah 1 rfl) hp rfl<| .c 0 (IS _ _ (leaves c) (p.2) (4096*2^k) _ (show RdL _ sv1.val aA (leaves c) from s16.eu 2 rfl hp0) (s16.eu 2 rfl hp) (by omega) (by omega) (by rw [hp2];omega) (λ x hx=>Nat.le_trans (hc _ (de c x hx).1) hW1) (λ x hx=>by rw [hp2] at hx;exact Le c 4096 hc k x hx) (hW)) rfl λ r3 _ h3=> ?_
  have s17:=s16.aD h3
  obtain ⟨sv2,hsv2,hsv2n⟩:=(s17.ah 3 rfl).sv
  subst hsv2
  refine .f rfl (.cM (bK It) (sv2,iH (leaves c) p.2) HS rfl s17 rfl λ v3 _ s18 _=> ?_)
  refine .ap 0 s18 1 (s18.ah 4 rfl) rfl λ v_4 w12 s19 _=> ?_
  refine .Z rfl<| .U rfl ?_
  have s20:Sat w [cL v1 3 (a8 .i64) (List.replicate (c.length) 0),cL v_4 285 (bK It) (ps++[(sv2,iH (leaves c) p.2)]),bm 288 aA (ps++[(sv2,iH (leaves c) p.2)])] w12:=Sat.uw (A:=[cL v1 3 (a8 .i64) (List.replicate (c.length) 0),cL v_4 285 (bK It) (ps++[(sv2,iH (leaves c) p.2)]),bm 288 aA (ps)]) (s19.pick [0,1,2,3] rfl) 2 rfl
  exact bc (k+1,v_4,ps++[(sv2,iH (leaves c) p.2)]) ⟨s20,by omega,by rw [map_append,hps,Ep c (k+1),hp2]<;>rfl,by rw [getElem?_append_left (by omega)];exact hp0⟩
 refine .ao<| .seq ?_
 have hk14:k=14:=by omega
 subst hk14
 have hpl:ps.length=15:=by have:=congrArg List.length hps;simpa [zo] using this
 have hll:=eb c
 refine .region<| .ln 1 (show RdL _ sv1.val aA (leaves c) from s16.eu 2 rfl hp0) rfl<| .Z rfl<| .seq<| .h<| .ln 1 (s16.ah 1 rfl) rfl<| .Z rfl<| .block<| .lp [7,11] rfl (α:=Nat×Nat×List Nat) (λ (kk,t,ls)=>[(12,(.int .i64 t)),(13,(.int .i64 ((((kk:Nat):Int)-1))))]) (λ (kk,t,ls) w'=>Sat w (s16.U [(0,cL v1 3 (a8 .i64) (ls))]) w'/\(kk<=15)/\(t<=(lvl c (kk-1)).length)/\(down c kk t ls=cW c)/\(ls.length=c.length)/\(∀ x∈ls,x<=(15-kk)*4096)) (λ (kk,t,ls)=>kk) (15,2*(leaves c).length-2,List.replicate c.length 0) ⟨congrArg some (congrArg (Value.int .i64) (by omega)),congrArg some (congrArg (Value.int .i64) (by omega)),rfl,rfl,trivial⟩ ⟨s16,Nat.le_refl _,zu c (by omega) (by omega),by unfold cW;rw [if_neg c1],by simp,λ x hx=>by have:=eq_of_mem_replicate hx;omega⟩ ?_
 rintro ⟨kk,t,ls⟩ w13 ⟨s21,hkk,ht,hdn,hls,hB⟩
 refine .seq<| .h<| .a 1 rfl (.geq rfl rfl)<| .nil<| .ab rfl (λ c4=> ?_) λ c4=> ?_
 ·refine .skip<| .seq<| .block<| .seq ?_
  obtain ⟨j,rfl⟩:∃ j,kk=j+1:=⟨kk-1,by omega⟩
  refine .weaken [(7,_),(11,_),(12,_),(13,(.int .i64 j)),(68,_)] ⟨rfl,rfl,rfl,congrArg some (congrArg (Value.int .i64) (by omega)),rfl,trivial⟩ ?_
  rw [Nat.add_sub_cancel] at ht
  obtain ⟨p,hp⟩:∃ p,ps[j]? =some p:=⟨_,getElem?_eq_getElem (by omega)⟩
  have hp2:p.2=lvl c j:=by
   have h1:(ps.map Prod.snd)[j]? =some p.2:=by rw [getElem?_map,hp]<;>rfl
   rw [hps,zp c (by omega:j<15)] at h1;exact (Option.some.inj h1).symm
  have htp:t<=p.2.length:=by rw [hp2];exact ht
  have hX:((p.2).take t).drop 0=(lvl c j).take t:=by rw [hp2]<;>rfl
  have hlv:=mc c j
  have hll:=eb c
  have hXl:(((p.2).take t).drop 0).length=t:=by simp;omega
  refine .U rfl<| .seq<| .h<| .ix 2 (s21.ah 1 rfl) rfl<| .le 0 (s21.ah 1 rfl) hp rfl<| .a 1 rfl (.bk (E:=aA) (a:=0) (c:=t) ig rfl (s21.eu 2 rfl hp) rfl ⟨_,rfl⟩ (by omega) (htp))<| .ln 0 (((s21.eu 2 rfl hp)).sub (a:=0) (b:=t) (by omega) (htp)) rfl<| .Z rfl<| .block<| .lq [7,11,13,77,78] rfl (α:=Nat×Nat×List Nat) (λ (q,pk,cur)=>[(14,(.int .i64 pk)),(79,(.int .i64 q))]) (λ (q,pk,cur) w'=>Sat w (s21.U [(0,cL v1 3 (a8 .i64) (cur))]) w'/\(q<=(((p.2).take t).drop 0).length)/\(cur=cv ls ((((p.2).take t).drop 0).take q))/\(pk=l4 ((((p.2).take t).drop 0).take q))/\(cur.length=c.length)/\(∀ x∈cur,x<=(15-(j+1))*4096+q)/\(pk<=q)) (λ (q,pk,cur)=>(((p.2).take t).drop 0).length-q) (0,0,ls) ⟨s21,Nat.zero_le _,rfl,rfl,hls,λ x hx=>by have:=hB x hx;omega,Nat.le_refl _⟩ ?_
  rintro ⟨q,pk,cur⟩ w14 ⟨s22,hq,hcur,hpk,hcl,hB2,hpq⟩
  refine .Z rfl<| .seq<| .ab rfl (λ c5=> ?_) λ c5=> ?_
  ·refine .skip<| .seq<| .block<| .seq ?_
   obtain ⟨x,hx⟩:∃ x,(((p.2).take t).drop 0)[q]? =some x:=⟨_,getElem?_eq_getElem (c5)⟩
   have hxm:x∈lvl c j:=by have h:=aa hx;rw [hX] at h;exact mem_of_mem_take h
   have hsym:=JR c j x hxm
   have hql:=c5
   refine .region<| .ix 0 (((s22.eu 2 rfl hp)).sub (a:=0) (b:=t) (by omega) (htp)) rfl<| .lg 0 (((s22.eu 2 rfl hp)).sub (a:=0) (b:=t) (by omega) (htp)) hx rfl<| .al 0 s22 rfl λ b2 _ s23 _ _=> .sa 0 s23 3 rfl ((aA).one _) λ w16 s24 _=> .nil<| .h<| .ld 1 s24 3 rfl<| .e rfl (.geq rfl rfl)<| .nil<| .ab rfl (λ c6=> ?_) λ c6=> ?_
   ·obtain ⟨n,hxs,hnc⟩:∃ n:Nat,x.sym=((n:Nat):Int)/\n<c.length:=by rcases hsym with h|⟨n,h⟩;(omega);exact ⟨n,h⟩
    have s25:Sat w [cL v1 3 (a8 .i64) (cur),cL ov 285 (bK It) (ps),bm 288 aA (ps),aj b2 288 [(.int .i64 x.w),(.int .i64 n),(.int .i64 x.lf),(.int .i64 x.rt)]] w16:=by have hq:=s24;(try dsimp only [aA] at hq);rw [hxs] at hq;exact hq
    obtain ⟨y,hy⟩:∃ y,cur[n]? =some y:=⟨_,getElem?_eq_getElem (by omega)⟩
    have hyB:=hB2 y (aa hy)
    refine .region<| .ld 2 s25 3 rfl<| .ix 0 (s25.ah 0 rfl) rfl<| .le 0 (s25.ah 0 rfl) hy rfl<| .ix 1 (s25.ah 0 rfl) rfl<| .f rfl (.dS (a:=(y+1)) 0 dj s25 rfl rfl rfl rfl (by (try simp only [length_set]);omega) λ _ s26 _=> ?_)
    have s26:=s26.nn
    refine .nil<| .U rfl ?_
    have s28:=(s26.pk [0,1,2]).cF 0 rfl (show cur.set n (y+1)=cv ls ((((p.2).take t).drop 0).take (q+1)) from by rw [au hx,jc,<-hcur,bump,if_pos (by omega),show x.sym.toNat=n by omega,getD_some hy])
    exact bc (q+1,pk,cv ls ((((p.2).take t).drop 0).take (q+1))) ⟨s28,by omega,rfl,by rw [au hx,zt,<-hpk];simp [show ¬ x.sym<0 by omega],by rw [eJ];omega,by rw [au hx,jc,<-hcur];exact CI hB2 x,by omega⟩
   refine .U rfl<| .U rfl ?_
   have s30:=(s24.pk [0,1,2]).cF 0 rfl (show cur=cv ls ((((p.2).take t).drop 0).take (q+1)) from by rw [au hx,jc,<-hcur,bump,if_neg (by omega)])
   exact bc (q+1,(pk+1),cv ls ((((p.2).take t).drop 0).take (q+1))) ⟨s30,by omega,rfl,by rw [au hx,zt,<-hpk];simp [show x.sym<0 by omega],by rw [eJ];omega,by rw [au hx,jc,<-hcur];exact CI hB2 x,by omega⟩
  refine .ao ?_
  have hqt:q=t:=by omega
  have hXq:(((p.2).take t).drop 0).take q=(lvl c j).take t:=by rw [hqt,hX,take_of_length_le (by simp;omega)]
  rw [hXq] at hcur hpk
  have hnd:down c j (2*pk) cur=cW c:=by rw [hpk,hcur,<-hdn,down]
  have hnt:2*pk<=(lvl c (j-1)).length:=by
   cases j with
   |zero=>have h1:=Bx (lvl c 0) t;have h2:l4 (lvl c 0)=0:=me c;omega
   |succ i=>rw [Nat.add_sub_cancel,hpk];exact wa c i t
  have hnB:∀ x∈cur,x<=(15-j)*4096:=λ x hx=>by have:=hB2 x hx;omega
  refine .U rfl<| .region<| .a 1 rfl (.sub (b:=(1:Int)) rfl rfl (by unfold bo;omega))<| .Z rfl ?_
  exact ⟨(j,(2*pk),cur),(wk rfl),⟨s22,by omega,hnt,hnd,by omega,hnB⟩,(show ((j))<(j+1) from by omega)⟩
 refine .ao<| .Z rfl<| .bG rfl rfl rfl ?_
 have hk0:kk=0:=by omega
 subst hk0
 have s32:=(s21.pk [0]).cF 0 rfl (show ls=cW c from by rw [<-hdn]<;>rfl)
 exact ⟨_,rfl,s32⟩
theorem AK (v u:Value) (l syms:List Nat) (w:World) (hv:RdL w v (a8 .i64) l) (hu:RdL w u (a8 .i64) syms) (hn:l.length<=1024) (hval:ep l=true) (hsn:syms.length<=4096) (hsy:∀ s∈syms,s<l.length/\0<ai l s):
  CallsV prog 189 [v,u] w λ r w'=>∃ v',r= .tuple #[v',.int .i64 ((cy l syms).length:Int),.int .i64 0]/\Sat w [cL v' 5 (a8 .u8) (aJ (cy l syms))] w':=by
 refine cc func189 rfl λ hs0=> .seq ?_
 have hgl:=GoodLens.uB hval
 refine .U rfl<| .seq<| .block<| .h<| .cp 1 hs0 (yg _ (l) _ (hv.ext hs0.ext) (hn)) rfl λ _ s1=> .e rfl (.cB rfl)<| .Z rfl<| .ak rfl (by rw [hval]<;>rfl)<| .h<| .ln 1 (hu.ext s1.ext) rfl<| .Z rfl<| .ak rfl (decide_eq_false (by omega))<| .skip<| .h<| .c 1 (sy _ (l) _ (hv.ext s1.ext) (hn) (iM hval)) rfl λ r2 _ h2=> ?_
 have s2:=s1.aD h2
 refine .Z rfl<| .h<| .c 0 (iW _) rfl λ r3 _ h3=> ?_
 obtain ⟨b1,rfl,p3⟩:=h3
 have s3:=(s2.aD p3).nn
 refine .Z rfl<| .h<| .a 1 rfl (.gn rfl)<| .Z rfl<| .seq<| .h<| .ln 1 (hu.ext s3.ext) rfl<| .Z rfl<| .block<| .lq [0,7,8,9,25,26] rfl (α:=Nat×Value×List Bool) (λ (k,wv,bits)=>[(27,(.int .i64 k))]) (λ (k,wv,bits) w'=>Sat w (s3.U [(1,aj b1 256 [wv,(.int .i64 ((bits).length:Nat))]),(2,cL wv 5 (a8 .u8) (aJ (bits)))]) w'/\(k<=syms.length)/\(bits=cy l (syms.take k))/\(bits.length<=15*k)) (λ (k,wv,bits)=>syms.length-k) (0,(.slice none 0 0),[]) ⟨s3,Nat.zero_le _,rfl,Nat.le_refl _⟩ ?_
 rintro ⟨k,wv,bits⟩ w4 ⟨s4,hk,hbits,hbl⟩
 refine .Z rfl<| .seq<| .ab rfl (λ c1=> ?_) λ c1=> ?_
 ·refine .skip<| .seq<| .block<| .seq ?_
  obtain ⟨x,hx⟩:∃ x,(syms)[k]? =some x:=⟨_,getElem?_eq_getElem c1⟩
  refine .region<| .ix 0 (hu.ext s4.ext) rfl<| .le 0 (hu.ext s4.ext) hx rfl<| .Z rfl<| .seq<| .seq ?_
  have hx0:=hsy x (aa hx)
  have hlx:=qv hx0.1
  have hcdx:=(rQ hgl hx0.2).2
  have hl15:=hgl.le x
  have hcl:=lb l
  refine .bH 45 (((x<0)\/(l.length<=x))\/((ai l x)=0)) ?_ ?_
  ·refine .z 3 rfl<| .B 33 rfl (λ g1=> ?_) λ g1=> ?_
   ·refine .M rfl (by simp [g1])
   refine .ln 2 (hv.ext s4.ext) rfl<| .z 3 rfl<| .B 39 rfl (λ g2=> ?_) λ g2=> ?_
   ·refine .M rfl (by simp [g1,g2])
   refine .ix 2 (hv.ext s4.ext) rfl<| .le 0 (hv.ext s4.ext) hlx rfl<| .M rfl (by simp [g1,g2])
  refine .ak rfl (decide_eq_false (by omega))<| .skip ?_
  have hshp1:=(s4.ah (E:=a8 .u8) 2 rfl).iR (by decide)
  refine .dk [0] s4 rfl (pl [0,1,2,3,4,5,6,7,8,1009] .fin) λ s5 S1=> .ix 3 S1 (·.ah 0 rfl) rfl<| .le 0 S1 (·.ah 0 rfl) (rQ hgl hx0.2).1 rfl<| .ix 2 S1 (hv.ext ·.ext) rfl<| .le 0 S1 (hv.ext ·.ext) hlx rfl ?_
  have A1:=s5.tail.oc [1,2,0] 2
  refine .f rfl (.wE Nc rfl rfl ((yc _ _ _ _ _ (bits) ((cn l x)) ((ai l x)) A1 (hcdx) (by omega) (by omega)).mono λ r4 _ h4=> ?_))
  obtain ⟨rfl,wv1,p4⟩:=h4
  have s6:=(Sat.order [2,0,1] (by decide) p4.join).aF.nn
  have S2:=s6.pk [0]
  refine ⟨S2,?_⟩
  refine .fin<| .U rfl ?_
  exact bc (k+1,wv1,bits++aZ ((cn l x)) ((ai l x))) ⟨s6,by omega,by rw [au hx,Ez,hbits],by simp only [length_append,aW];omega⟩
 refine .ao<| .h<| .c 1 (oL _ _ (aJ (bits)) _ (s4.cell (i:=1) (j:=0) rfl rfl) (s4.ah 2 rfl) (by rw [aR];omega)) rfl λ r5 _ h5=> ?_
 have s7:=s4.aD h5
 refine .cp 1 s7 (wS _ ((bits).length) _ (s7.cell (i:=1) (j:=1) rfl rfl)) rfl λ _ s8=> .Z rfl<| .ret ?_
 show aK _ _ _ _ _ _
 refine iC rfl rfl rfl rfl ?_
 have hkl:bits=cy l syms:=by rw [hbits,show k=syms.length by omega,take_length]
 subst hkl
 exact ⟨_,rfl,s8.pk [3]⟩
end Go.Proofs.YthffkcnbdehceaaGreat
