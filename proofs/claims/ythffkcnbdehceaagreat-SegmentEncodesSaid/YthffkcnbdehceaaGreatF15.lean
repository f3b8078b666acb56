/-The walks of the functions of F15,printed by our own program (kwgen.py) out of our descriptions (base.py). -/
import Derived.Test.YthffkcnbdehceaaGreatM06
import Derived.Test.YthffkcnbdehceaaGreatF06v
open List
open Go.Proofs.Tryz
set_option linter.unusedVariables false
set_option linter.unusedSimpArgs false
set_option linter.unusedSectionVars false
namespace Go.Proofs.YthffkcnbdehceaaGreat
open Go.RowKit Go.Kw
set_option maxRecDepth 100000
theorem CH (v:Value) (l:List Nat) (w:World) (hv:RdL w v (aa .i64) l) (hn:l.length<=128) (hb:∀ x∈l,x<=2147483647):
  CallsV prog 226 [v] w λ r w'=>r= .int .i64 0/\Sat w [] w':=by
 refine cg func226 rfl λ hs0=> .Z rfl<| .seq<| .h<| .ln 1 (hv.ext hs0.ext) rfl<| .Z rfl<| .aj rfl (IN (by omega))<| .skip<| .seq<| .h<| .ln 1 (hv.ext hs0.ext) rfl<| .Z rfl<| .block<| .lq [8,9] rfl (α:=Nat) (λ k=>[(10,(.int .i64 k))]) (λ k w'=>Sat w [] w'/\(k<=l.length)) (λ k=>l.length-k) 0 ⟨hs0,KD _⟩ ?_
 rintro k w1 ⟨s1,hk⟩
 refine .Z rfl<| .seq<| .ae rfl (λ c1=> ?_) λ c1=> ?_
 ·refine .skip<| .seq<| .block<| .seq ?_
  obtain ⟨x,hx⟩:∃ x,(l)[k]? =some x:=⟨_,py c1⟩
  refine .region<| .ix 0 (hv.ext s1.ext) rfl<| .le 0 (hv.ext s1.ext) hx rfl<| .Z rfl<| .seq<| .bN 19 ((x<0)\/(2147483647<x)) ?_ ?_
  ·refine .z 3 rfl<| .B 16 rfl (λ g1=> ?_) λ g1=> ?_
   ·refine .M rfl (by simp [g1])
   refine .M rfl (by simp [g1])
  refine .aj rfl (IN (by have:=hb x (a7 hx);omega))<| .skip<| .U rfl ?_
  exact aT (k+1) ⟨s1,by omega⟩
 refine .ao<| .Z rfl<| .aC rfl rfl ?_
 exact ⟨rfl,s1⟩
theorem iI (x:Nat) (w:World) (hx:x<2^63):
  CallsV prog 275 [(.int .i64 x)] w λ r w'=>r= .int .i64 ((iq x:Nat):Int)/\Sat w [] w':=by
 refine cg func275 rfl λ hs0=> .Z rfl<| .seq ?_
 have hb:=bitLen_le64 x
 refine .region<| .cp 2 hs0 (mK (x) _ (by omega)) rfl λ _ s1=> .e rfl (.MR (b:=1) rfl rfl)<| .a 1 rfl (.quo (b:=7) rfl rfl (by omega) (by unfold aY;omega))<| .Z rfl<| .aC rfl rfl ?_
 exact ⟨rfl,s1⟩
theorem Ig (v:Value) (l:List Nat) (width:Nat) (w:World) (hv:RdL w v (aa .i64) l) (hn:l.length<=4096) (hb:∀ x∈l,x<2^63) (hw:width<=31):
  CallsV prog 259 [v,(.int .i64 width)] w λ r w'=>r= .int .i64 ((ir width l:Nat):Int)/\Sat w [] w':=by
 refine cg func259 rfl λ hs0=> .Z rfl<| .Z rfl<| .seq<| .h<| .ln 1 (hv.ext hs0.ext) rfl<| .Z rfl<| .block<| .lq [0,1,11,12] rfl (α:=Nat×Nat×Nat×Nat) (λ (k,n,c,b)=>[(5,(.int .i64 n)),(6,(.int .i64 c)),(7,(.int .i64 ((((b:Nat):Int)-1)))),(13,(.int .i64 k))]) (λ (k,n,c,b) w'=>Sat w [] w'/\(k<=l.length)/\(fh width (l.take k)=(k,n,c,b))/\(n<=20*k)/\(c<=k)/\(b<=k)) (λ (k,n,c,b)=>l.length-k) (0,0,0,0) ⟨hs0,KD _,rfl,KB _,KB _,KB _⟩ ?_
 rintro ⟨k,n,c,b⟩ w1 ⟨s1,hk,hst,hnb,hcb,hbb⟩
 refine .Z rfl<| .seq<| .ae rfl (λ c1=> ?_) λ c1=> ?_
 ·refine .skip<| .seq<| .block<| .seq ?_
  obtain ⟨x,hx⟩:∃ x,(l)[k]? =some x:=⟨_,py c1⟩
  refine .region<| .ix 1 (hv.ext s1.ext) rfl<| .le 0 (hv.ext s1.ext) hx rfl<| .Z rfl<| .seq ?_
  have hx64:=hb x (a7 hx)
  have hxd:=QH x (2^width)
  refine .U rfl<| .Z rfl<| .ae rfl (λ c2=> ?_) λ c2=> ?_
  ·refine .seq ?_
   have h8:=eQ (k+1-b)
   have h9:=eQ (x/2^width)
   refine .region<| .a 3 rfl (.lk rfl rfl (by omega) (by omega))<| .cp 0 s1 (iI ((k+1-b)) _ (by omega)) rfl λ _ s2=> .cp 1 s2 (iI ((x/2^width)) _ (by omega)) rfl λ _ s3=> .Z rfl<| .Z rfl<| .U rfl<| .U rfl ?_
   exact ⟨(k+1,(n+((iq ((k+1-b)))+(iq ((x/2^width))))),(c+1),k+1),⟨rfl,rfl,If some (If (Value.int .i64) (by omega)),rfl,rfl,rfl,rfl,rfl,trivial⟩,⟨s3,by omega,by rw [ak hx,kB,hst];simp [kA,c2],by have h8:=eQ (k+1-b);have h9:=eQ (x/2^width);omega,by omega,by omega⟩,by dsimp only;omega⟩
  refine .skip<| .U rfl ?_
  exact aT (k+1,n,c,b) ⟨s1,by omega,by rw [ak hx,kB,hst];simp [kA,c2],by have h8:=eQ (k+1-b);have h9:=eQ (x/2^width);omega,by omega,by omega⟩
 refine .ao<| .seq ?_
 have hmul:l.length*width<=4096*31:=Tm hn hw
 have h1:=eQ l.length
 have h2:=eQ width
 have h3:=eQ c
 refine .region<| .ln 2 (hv.ext s1.ext) rfl<| .cp 0 s1 (iI (l.length) _ (by omega)) rfl λ _ s4=> .cp 2 s4 (iI (width) _ (by omega)) rfl λ _ s5=> .cq 2 s5 (iI (c) _ (by omega)) rfl λ _ s6=> .ln 2 (hv.ext s6.ext) rfl<| .a 3 rfl (.quo (b:=8) rfl rfl (by omega) (by unfold aY;omega))<| .Z rfl<| .aC rfl rfl ?_
 have hk2:k=l.length:=by omega
 refine ⟨?_,s6⟩
 unfold ir
 rw [show fh width l=(k,n,c,b) by rw [<-hst,hk2,PW]]
theorem CI (v:Value) (l:List Nat) (width:Nat) (w:World) (hv:RdL w v (aa .i64) l) (hn:l.length<=4096) (hb:∀ x∈l,x<2^63) (hw:width<=31):
  CallsV prog 227 [v,(.int .i64 width)] w λ r w'=>Sat w [cL r 5 (aa .u8) (iu width l)] w':=by
 refine cg func227 rfl λ hs0=> .Z rfl<| .h<| .c 0 (j6 _) rfl λ r1 _ h_1=> ?_
 obtain ⟨b1,rfl,p1⟩:=h_1
 have s1:=hs0.az p1
 refine .Z rfl<| .Z rfl<| .Z rfl<| .seq<| .h<| .ln 1 (hv.ext s1.ext) rfl<| .Z rfl<| .block ?_
 have s2:=s1.aA 5 (aa .u8)
 refine .lq [0,1,5,14,15] rfl (α:=Nat×Value×List Bool×Value×List Nat×Nat×Nat) (λ (k,wv,bits,ev,ex,c,b)=>[(6,ev),(7,(.int .i64 c)),(8,(.int .i64 ((((b:Nat):Int)-1)))),(16,(.int .i64 k))]) (λ (k,wv,bits,ev,ex,c,b) w'=>Sat w [aq b1 256 [wv,(.int .i64 ((bits).length:Nat))],cL wv 5 (aa .u8) (aH (bits)),cL ev 5 (aa .u8) (ex)] w'/\(k<=l.length)/\(de width (l.take k)=(k,bits,ex,c,b))/\(bits.length<=31*k)/\(ex.length<=20*k)/\(c<=k)/\(b<=k)) (λ (k,wv,bits,ev,ex,c,b)=>l.length-k) (0,(.slice none 0 0),[],(.slice none 0 0),[],0,0) ⟨s2,KD _,rfl,by simp,by simp,KB _,KB _⟩ ?_
 rintro ⟨k,wv,bits,ev,ex,c,b⟩ w2 ⟨s3,hk,hst,hbl,hel,hcb,hbb⟩
 refine .Z rfl<| .seq<| .ae rfl (λ c1=> ?_) λ c1=> ?_
 ·refine .skip<| .seq<| .block<| .seq ?_
  obtain ⟨x,hx⟩:∃ x,(l)[k]? =some x:=⟨_,py c1⟩
  refine .region<| .ix 1 (hv.ext s3.ext) rfl<| .le 0 (hv.ext s3.ext) hx rfl<| .Z rfl<| .seq ?_
  have hx64:=hb x (a7 hx)
  have hxd:=QH x (2^width)
  have hp1:1<=2^width:=Nat.one_le_two_pow
  have hp2:2^width<=2^31:=Qg (by decide) hw
  refine .region<| .a 5 rfl (.Pe (b:=1) rfl rfl rfl (by (try simp only [IntKind.bits]);omega) (by (try simp only [IntKind.bits]);omega))<| .e rfl (.Hp (width) rfl rfl rfl (by simp only [IntKind.bits];rw [RJ,Q5 (by omega)]) (by simp only [IntKind.bits];omega) (by simp only [IntKind.bits];omega))<| .z 1 rfl ?_
  have A1:=s3.tail.oc [0,1,2] 2
  refine .c 0 (wY _ _ _ _ _ (bits) ((x%2^width)) (width) A1 (RY _ (by omega)) (by omega) (by omega)) rfl λ r2 _ h_2=> ?_
  obtain ⟨rfl,wv1,p2⟩:=h_2
  have s4:=(Sat.order [0,1,2] (by decide) p2.join).aI.nn
  refine .nil<| .Z rfl<| .Z rfl<| .ae rfl (λ c2=> ?_) λ c2=> ?_
  ·refine .h<| .a 3 rfl (.lk rfl rfl (by omega) (by omega))<| .c 1 (dj ev (ex) ((k+1-b)) _ (s4.ah 2 rfl) (by omega) (by omega)) rfl λ r3 _ h_3=> ?_
   have s5:=s4.az h_3
   refine .Z rfl<| .h<| .c 3 (dj r3 (ex++uv ((k+1-b))) ((x/2^width)) _ (s5.ah 3 rfl) (by have h8:=aD (k+1-b);simp only [sp];omega) (by omega)) rfl λ r4 _ h4=> ?_
   have s6:=s5.az h4
   refine .Z rfl<| .Z rfl<| .U rfl<| .trim [0,1,5,6,7,8,9,10,11,14,15,16] rfl<| .U rfl ?_
   exact ⟨(k+1,wv1,bits++aX ((x%2^width)) (width),r4,ex++uv ((k+1-b))++uv ((x/2^width)),(c+1),k+1),⟨rfl,rfl,If some (If (Value.int .i64) (by omega)),rfl,rfl,rfl,rfl,rfl,rfl,trivial⟩,⟨s6.pk [0,1,4],by omega,by rw [ak hx,eE,hst];simp [dD,c2],by simp only [sp,aF];omega,by have h8:=aD (k+1-b);have h9:=aD (x/2^width);(try simp only [sp]);omega,by omega,by omega⟩,by dsimp only;omega⟩
  refine .skip<| .U rfl ?_
  exact aT (k+1,wv1,bits++aX ((x%2^width)) (width),ev,ex,c,b) ⟨s4,by omega,by rw [ak hx,eE,hst];simp [dD,c2],by simp only [sp,aF];omega,by have h8:=aD (k+1-b);have h9:=aD (x/2^width);(try simp only [sp]);omega,by omega,by omega⟩
 refine .ao<| .seq ?_
 have hpl:=bc bits
 have h1:=aD l.length
 have h2:=aD width
 have h3:=aD c
 refine .region<| .ln 1 (hv.ext s3.ext) rfl<| .c 1 (dj (Value.slice none 0 0) ([]) (l.length) _ (RdL.nil _ _) (by simp) (by omega)) rfl λ r5 _ h5=> ?_
 have s8:=s3.az h5
 refine .Z rfl<| .h<| .c 3 (dj r5 (uv (l.length)) (width) _ (s8.ah 3 rfl) (by omega) (by omega)) rfl λ r6 _ h6=> ?_
 have s9:=(s8.az h6).nn
 refine .Z rfl<| .h<| .c 3 (dj r6 (uv (l.length)++uv (width)) (c) _ (s9.ah 4 rfl) (by simp only [sp];omega) (by omega)) rfl λ r7 _ h7=> ?_
 have s10:=s9.az h7
 refine .Z rfl<| .h<| .c 2 (o9 _ _ (aH (bits)) _ (s10.cell (i:=0) (j:=0) rfl rfl) (s10.ah 1 rfl) (by omega)) rfl λ r8 _ h_8=> ?_
 have s11:=s10.az h_8
 refine .ap 0 s11 5 (s11.ah 6 rfl) rfl (h1:=by simp only [sp];omega) (h2:=by simp only [sp];omega) λ v1 _ s12 _=> .ap 1 s12 5 (s12.ah 2 rfl) rfl (h1:=by simp only [sp];omega) (h2:=by simp only [sp];omega) λ v2 _ s13 _=> .Z rfl<| .aC rfl rfl ?_
 have s15:=(s13.pk [5]).aZ 0 rfl (show uv (l.length)++uv (width)++uv (c)++aH (bits)++ex=iu width l from by unfold iu;rw [show de width l=(k,bits,ex,c,b) by rw [<-hst,show k=l.length by omega,PW]])
 exact s15
theorem Ih (v:Value) (l:List Nat) (w:World) (hv:RdL w v (aa .i64) l) (hn:l.length<=4096) (hb:∀ x∈l,x<2^63):
  CallsV prog 228 [v] w λ r w'=>r= .int .i64 ((dm l 32:Nat):Int)/\Sat w [] w':=by
 refine cg func228 rfl λ hs0=> .Z rfl<| .h<| .al 0 hs0 rfl λ b1 w1 s1 _ _=> .nil<| .Z rfl<| .seq<| .Z rfl<| .block ?_
 have s2:Sat w [aq b1 321 ((aa .i64).all (List.replicate 32 0))] w1:=s1
 refine .lq [0,3] rfl (α:=Nat×Nat×List Nat) (λ (k,bw,cl)=>[(4,(.int .i64 bw)),(6,(.int .i64 k))]) (λ (k,bw,cl) w'=>Sat w [aq b1 321 ((aa .i64).all (cl))] w'/\(k<=32)/\(cl.length=32)/\(∀ i,i<k->cl[i]? =some (ir i l))/\(bw=dm l k)) (λ (k,bw,cl)=>32-k) (0,0,List.replicate 32 0) ⟨s2,by omega,by simp,λ i hi=>absurd hi (by omega),rfl⟩ ?_
 rintro ⟨k,bw,cl⟩ w2 ⟨s3,hk,hlen,hcl,hbw⟩
 refine .Z rfl<| .seq<| .ae rfl (λ c1=> ?_) λ c1=> ?_
 ·refine .skip<| .seq<| .block<| .Z rfl<| .h<| .cp 3 s3 (Ig _ (l) (k) _ (hv.ext s3.ext) (hn) (hb) (by omega)) rfl λ _ s4=> .e rfl (.oY AM rfl rfl (by omega))<| .f rfl (.setArr (E:=aa .i64) (a:=(ir (k) (l))) 0 cQ s4 rfl rfl rfl rfl (by omega) λ _ s5 _=> ?_)
  have s5:=s5.nn
  refine .nil<| .seq ?_
  have hget1:(cl.set k (ir (k) (l)))[k]? =some (ir k l):=by rw [Qo (by omega)]
  have hget2:(cl.set k (ir (k) (l)))[bw]? =some (ir bw l):=by
   by_cases hkb:bw=k
   ·rw [hkb];exact hget1
   rw [Rv (λ h=>hkb h.symm)];exact hcl bw (by have:=gL l k;omega)
  refine .dk [0] s5 rfl (pl [0,1,2,3,4,5,6] .fin) λ s6 S1=> .z 1 S1 rfl<| .e rfl (λ _ s=> .oY AM rfl rfl (by omega)) S1<| .e rfl (λ _ s=> .load gO rfl (s.qs (E:=aa .i64) 0 rfl hget1 (by decide) rfl)) S1<| .z 1 S1 rfl<| .e rfl (λ _ s=> .oY AM rfl rfl (by have:=gL l k;omega)) S1<| .e rfl (λ _ s=> .load gO rfl (s.qs (E:=aa .i64) 0 rfl hget2 (by decide) rfl)) S1<| .Z S1 rfl<| .ae rfl (λ c2=> ?_) λ c2=> ?_
  ·refine .U rfl<| .U rfl ?_
   exact aT (k+1,k,cl.set k (ir (k) (l))) ⟨s6,by omega,by simp [hlen],λ i hi=>by
   by_cases hik:i=k
   ·rw [hik];exact hget1
   ·rw [Rv (λ h=>hik h.symm)];exact hcl i (by omega),by rw [dm,<-hbw];simp [c2]⟩
  refine .skip<| .U rfl ?_
  exact aT (k+1,bw,cl.set k (ir (k) (l))) ⟨s6,by omega,by simp [hlen],λ i hi=>by
   by_cases hik:i=k
   ·rw [hik];exact hget1
   ·rw [Rv (λ h=>hik h.symm)];exact hcl i (by omega),by rw [dm,<-hbw];simp [c2]⟩
 refine .ao<| .Z rfl<| .aC rfl rfl ?_
 rw [show k=32 by omega] at hbw
 rw [<-hbw]
 exact ⟨rfl,s3.pk []⟩
theorem AV (v:Value) (l:List Nat) (w:World) (hv:RdL w v (aa .i64) l) (hn:l.length<=128) (hb:∀ x∈l,x<=2147483647):
  CallsV prog 187 [v] w λ r w'=>∃ v',r= .tuple #[v',.int .i64 0]/\Sat w [cL v' 5 (aa .u8) (bD l)] w':=by
 refine cg func187 rfl λ hs0=> .seq ?_
 have hb2:∀ x∈l,x<2^63:=λ x hx=>by have:=hb x hx;omega
 refine .U rfl<| .seq<| .h<| .cp 1 hs0 (CH _ (l) _ (hv.ext hs0.ext) (hn) (hb)) rfl λ _ s1=> .Z rfl<| .Z rfl<| .aj rfl (rfl)<| .skip<| .h<| .cp 2 s1 (Ih _ (l) _ (hv.ext s1.ext) (by omega) (hb2)) rfl λ _ s2=> .c 0 (CI _ (l) ((dm (l) 32)) _ (hv.ext s2.ext) (by omega) (hb2) (by have:=gL l 32;omega)) rfl λ r3 _ h3=> ?_
 have s3:=(s2.az h3).nn
 refine .Z rfl<| .cj rfl rfl rfl ?_
 exact ⟨_,rfl,s3⟩
def b9:Enc It:=⟨4,λ x=>[.int .i64 (x.w:Int),.int .i64 x.sym,.int .i64 (x.lf:Int),.int .i64 (x.rt:Int)],λ _=>rfl,λ x u h=>by simp at h;rcases h with rfl|rfl|rfl|rfl<;>rfl⟩
theorem xl {α:Type} {l:List α} {i j:Nat} {x y z:α} (hx:l[i]? =some x) (hy:l[j]? =some y) (h:z∈(l.set i y).set j x):z∈l:=by
 rcases R2 h with h|rfl
 ·rcases R2 h with h|rfl
  ·exact h
  exact PO hy
 exact PO hx
def tA {α:Type} (P:Program) (fi:FuncId) (cap:Array Value) (val:α->Value) (key:α->Nat) (D:α->Prop) (w0:World) (cs:List Chunk):Prop:=
 ∀ c w,Sat w0 ([c]++cs) w->∀ a b,D a->D b->CallsV P fi ([val a,val b]++cap.toList) w λ r w'=>∃ z:Int,r= .int .i64 z/\(z<0↔key a<key b)/\Sat w [] w'
theorem tB {α:Type} {key:α->Nat} {l:List α} {n:Nat} (hn:n=l.length):dF key 0 l (n-0-1)=bz key l:=by
 obtain ⟨S',h1,h2,h3⟩:=Gh (key:=key) [] l [] (a:=0) (n:=n-0-1) rfl (by omega)
 simp only [Rc,QO] at h1
 rw [h1];exact iU h2 h3
theorem N8 (w0 w:World) (cs:List Chunk) (v:Value) (l:List It) (a b:Nat) (key:It->Nat) (D:It->Prop) (fi:FuncId) (cap:Array Value) (hE:Enters prog fi) (hcmp:tA prog fi cap b9.ag key D w0 cs) (hs:Sat w0 ([cL v 288 (b9) (l)]++cs) w) (hD:∀ x∈l,D x) (ha:a<=l.length) (hb:b<=l.length) (hn:l.length<=1000000000000):
  CallsV prog 282 [v,(.int .i64 a),(.int .i64 b),(.func (.func fi) #[] cap)] w λ r w'=>r= .tuple #[]/\Sat w0 ([cL v 288 (b9) (dF key a l (b-a-1))]++cs) w':=by
 refine ai func282 rfl rfl ?_
 refine .Z rfl<| .block<| .lq [0,1,2,3] rfl (α:=Nat) (λ k=>[(8,(.int .i64 ((a+k+1):Nat)))]) (λ k w'=>Sat w0 ([cL v 288 (b9) (dF key a l k)]++cs) w'/\(k=0\/a+k+1<=b)/\(∀ x∈dF key a l k,D x)) (λ k=>b-k) 0 ⟨hs,.inl rfl,hD⟩ ?_
 rintro k w1 ⟨s1,hk,hDk⟩
 refine .seq<| .Z rfl<| .ae rfl (λ c1=> ?_) λ c1=> ?_
 ·refine .skip<| .seq<| .block<| .Z rfl<| .block<| .lq [0,1,2,3,8] rfl (α:=Nat×List It) (λ (j,cur)=>[(9,(.int .i64 j))]) (λ (j,cur) w'=>Sat w0 ([cL v 288 (b9) (cur)]++cs) w'/\(j<=a+k+1)/\(ly key a j cur=ly key a (a+k+1) (dF key a l k))/\(cur.length=l.length)/\(∀ x∈cur,D x)) (λ (j,cur)=>j) (a+k+1,dF key a l k) ⟨s1,KB _,rfl,km ..,hDk⟩ ?_
  rintro ⟨j,cur⟩ w2 ⟨s2,hj,hcur,hlc,hDc⟩
  refine .seq<| .seq ?_
  obtain ⟨x,hx⟩:∃ x,(cur)[j]? =some x:=⟨_,py (by omega)⟩
  obtain ⟨y,hy⟩:∃ y,(cur)[(j-1)]? =some y:=⟨_,py (by omega)⟩
  refine .md [0,1,2,3,8,9] rfl (λ K L' w'=>Weak ([(34,(.bool (decide ((a<j)/\(key x<key y)))))]++K) L'/\Sat w0 s2.L w') ?_ ?_
  ·refine .draw (λ w'=>Sat w0 ([cL v 288 (b9) (cur)]++cs) w') (pl [0,1,2,3,4,5,6,7,8,9,10,11,12,13,1014,15,16] .fin) mixed (by kernel_rfl) ?_
   have s3:=s2.drew
   refine .z 4 s3 rfl<| .B 21 rfl (λ g1=> ?_) λ g1=> ?_
   ·refine .ix 3 s3 (·.ah 0 rfl) rfl<| .lg 0 s3 (·.ah 0 rfl) hx rfl<| .ix 3 s3 (·.ah 0 rfl) rfl<| .lg 0 s3 (·.ah 0 rfl) hy rfl<| .b 0 s3 rfl (.yV hE rfl rfl ((hcmp _ _ s3 (x) (y) (hDc _ (a7 hx)) (hDc _ (a7 hy))).mono λ r1 _ h1=> ?_))
    obtain ⟨z1,rfl,hz1,p1⟩:=h1
    have s4:Sat w0 ([cL v 288 (b9) (cur)]++cs) _:=(s3.az p1).wI
    have S1:Sat w0 ([_]++cs) _:=s4.sub ((.cons_cons _ (.refl _)))
    refine ⟨S1,?_⟩
    refine .a 0 S1 rfl (λ _ s=> .Hr rfl rfl hz1)<| .Z S1 rfl ?_
    exact ⟨⟨If some (If Value.bool (by simp [g1])),rfl,rfl,rfl,rfl,rfl,rfl,trivial⟩,s4⟩
   refine .Z s3 rfl ?_
   exact ⟨⟨If some (If Value.bool (by simp [g1])),rfl,rfl,rfl,rfl,rfl,rfl,trivial⟩,s3⟩
  rintro L' w4 ⟨hw1,s5⟩
  refine .weaken _ hw1<| .ae rfl (λ c2=> ?_) λ c2=> ?_
  ·refine .skip<| .seq<| .block ?_
   have hshp1:=(s5.ah (E:=b9) 0 rfl).iH (by decide)
   refine .Ce (λ w'=>Sat w0 ([cL v 288 (b9) (cur)]++cs) w') (λ w'=>Sat w0 ([]++cs) w') 15 (pl [0,1] (.loose 2 (.loose 3 (.loose 4 (pl [5,6,7,8,9] (.loose 10 (.loose 11 (.loose 12 (pl [13,14] (.bar 15 (pl [16,1017] .fin))))))))))) (λ w' h=>h.sub ((.cons _ (.refl _)))) mixed (by kernel_rfl) ?_
   have s6:=s5.drew
   refine .z 2 s6 rfl<| .loose rfl rfl rfl (λ _ s=> .move rfl) s6<| .loose rfl rfl rfl (λ _ s=> .move rfl) s6<| .loose rfl rfl rfl (λ _ s=> .MW (b:=1) rfl rfl (by omega) (by omega)) s6<| .ix 3 s6 (·.ah 0 rfl) rfl<| .lg 0 s6 (·.ah 0 rfl) hy rfl<| .loose rfl rfl rfl (λ _ s=> .move rfl) s6<| .loose rfl rfl rfl (λ _ s=> .move rfl) s6<| .loose rfl rfl rfl (λ _ s=> .kJ pI rfl rfl hshp1 (by omega)) s6<| .lg 0 s6 (·.ah 0 rfl) hx rfl<| .ix 0 s6 (·.ah 0 rfl) rfl<| .bar rfl rfl rfl (OpE.AO (a:=y) 0 Hj s6 rfl rfl rfl (by (try simp only [PJ]);omega) (by decide) λ _ s7 _=> ?_)
   have S2:Sat w0 ([]++cs) _:=s7.sub ((.cons _ (.refl _)))
   refine ⟨S2,?_⟩
   refine .e rfl (λ _ s=> .kJ pI rfl rfl hshp1 (by omega)) S2<| .f rfl (.AO (a:=x) 0 Hj s7 rfl rfl rfl (by (try simp only [PJ]);omega) (by decide) λ _ s8 _=> ?_)
   have S3:Sat w0 ([]++cs) _:=s8.sub ((.cons _ (.refl _)))
   refine ⟨S3,?_⟩
   refine .fin<| .U rfl ?_
   exact aT (j-1,(cur.set j y).set (j-1) x) ⟨s8,by omega,by rw [<-hcur,vQ c2 hx hy],by simp only [PJ];exact hlc,λ z hz=>hDc z (xl hx hy hz)⟩
  refine .ao ?_
  have hDk1:∀ x∈dF key a l (k+1),D x:=by rw [show dF key a l (k+1)=cur from ((iV c2 hx hy).symm.trans hcur).symm];exact hDc
  have s9:Sat w0 ([cL v 288 (b9) (dF key a l (k+1))]++cs) w4:=by
   have hq:cur=dF key a l (k+1):=(iV c2 hx hy).symm.trans hcur
   rw [<-hq];exact s5
  refine .U rfl ?_
  exact aT (k+1) ⟨s9,.inr (by omega),hDk1⟩
 refine .ao ?_
 show aL _ _ _ _ _ _
 refine cv rfl ?_
 have s10:Sat w0 ([cL v 288 (b9) (dF key a l (b-a-1))]++cs) w1:=by
  have hq:dF key a l k=dF key a l (b-a-1):=by rw [show k=b-a-1 by omega]
  rw [<-hq];exact s1
 exact ⟨rfl,s10⟩
theorem N9 (w0 w:World) (cs:List Chunk) (v:Value) (l:List It) (n:Nat) (key:It->Nat) (D:It->Prop) (fi:FuncId) (cap:Array Value) (hE:Enters prog fi) (hcmp:tA prog fi cap b9.ag key D w0 cs) (hs:Sat w0 ([cL v 288 (b9) (l)]++cs) w) (hD:∀ x∈l,D x) (hnl:n=l.length) (hn:l.length<=16):
  CallsV prog 276 [v,(.int .i64 n),(.func (.func fi) #[] cap)] w λ r w'=>r= .tuple #[]/\Sat w0 ([cL v 288 (b9) (bz key l)]++cs) w':=by
 refine ai func276 rfl rfl ?_
 refine .Z rfl<| .Z rfl<| .seq<| .block<| .lq [0,1,2,6,7,8,10] rfl (α:=Unit) (λ _=>[]) (λ _ w'=>Sat w0 hs.L w') (λ _=>0) () hs ?_
 rintro _ w1 s1
 refine .seq<| .Z rfl<| .aj rfl (IN (by omega))<| .ao<| .h<| .z 4 rfl ?_
 have A1:Sat w0 ([cL v 288 (b9) (l)]++([]++cs)) _:=(Sat.order [0] (by decide) s1).cut 1
 refine .c 0 (N8 w0 _ cs v (l) (0) (n) key D fi cap hE hcmp A1 (hD) (KD _) (by omega) (by omega)) rfl λ r1 _ h1=> ?_
 obtain ⟨rfl,p1⟩:=h1
 have s2:Sat w0 ([cL v 288 (b9) (dF key 0 (l) (n-0-1))]++cs) _:=p1
 refine .nil<| .block<| .lq [0,1,2,6,7,8,10,11,12,23,24,25,26,27] rfl (α:=Unit) (λ _=>[]) (λ _ w'=>Sat w0 s2.L w') (λ _=>0) () s2 ?_
 rintro _ w3 s3
 refine .seq<| .Z rfl<| .aj rfl (IN (by omega))<| .ao ?_
 show aL _ _ _ _ _ _
 refine cv rfl ?_
 have s4:Sat w0 ([cL v 288 (b9) (bz key l)]++cs) w3:=by
  have hq:dF key 0 (l) (n-0-1)=bz key l:=tB hnl
  rw [<-hq];exact s3
 exact ⟨rfl,s4⟩
theorem Kl (w0 w:World) (cs:List Chunk) (v:Value) (l:List It) (key:It->Nat) (D:It->Prop) (fi:FuncId) (cap:Array Value) (hE:Enters prog fi) (hcmp:tA prog fi cap b9.ag key D w0 cs) (hs:Sat w0 ([cL v 288 (b9) (l)]++cs) w) (hD:∀ x∈l,D x) (hn:l.length<=16):
  CallsV prog 260 [v,(.func (.func fi) #[] cap)] w λ r w'=>r= .tuple #[]/\Sat w0 ([cL v 288 (b9) (bz key l)]++cs) w':=by
 refine ai func260 rfl rfl ?_
 refine .region<| .ln 2 (hs.ah 0 rfl) rfl<| .z 1 rfl ?_
 have A1:Sat w0 ([cL v 288 (b9) (l)]++([]++cs)) _:=(Sat.order [0] (by decide) hs).cut 1
 refine .c 0 (N9 w0 _ cs v (l) (l.length) key D fi cap hE hcmp A1 hD rfl hn) rfl λ r1 _ h1=> ?_
 obtain ⟨rfl,p1⟩:=h1
 have s1:Sat w0 ([cL v 288 (b9) (bz key (l))]++cs) _:=p1
 refine .nil ?_
 show aL _ _ _ _ _ _
 refine cv rfl ?_
 exact ⟨rfl,s1⟩
theorem Na (w0 w:World) (cs:List Chunk) (v:Value) (l:List Nat) (a b:Nat) (key:Nat->Nat) (D:Nat->Prop) (fi:FuncId) (cap:Array Value) (hE:Enters prog fi) (hcmp:tA prog fi cap (λ x:Nat=>Value.int .i64 (x:Int)) key D w0 cs) (hs:Sat w0 ([cL v 3 (aa .i64) (l)]++cs) w) (hD:∀ x∈l,D x) (ha:a<=l.length) (hb:b<=l.length) (hn:l.length<=1000000000000):
  CallsV prog 250 [v,(.int .i64 a),(.int .i64 b),(.func (.func fi) #[] cap)] w λ r w'=>r= .tuple #[]/\Sat w0 ([cL v 3 (aa .i64) (dF key a l (b-a-1))]++cs) w':=by
 refine ai func250 rfl rfl ?_
 refine .Z rfl<| .block<| .lq [0,1,2,3] rfl (α:=Nat) (λ k=>[(8,(.int .i64 ((a+k+1):Nat)))]) (λ k w'=>Sat w0 ([cL v 3 (aa .i64) (dF key a l k)]++cs) w'/\(k=0\/a+k+1<=b)/\(∀ x∈dF key a l k,D x)) (λ k=>b-k) 0 ⟨hs,.inl rfl,hD⟩ ?_
 rintro k w1 ⟨s1,hk,hDk⟩
 refine .seq<| .Z rfl<| .ae rfl (λ c1=> ?_) λ c1=> ?_
 ·refine .skip<| .seq<| .block<| .Z rfl<| .block<| .lq [0,1,2,3,8] rfl (α:=Nat×List Nat) (λ (j,cur)=>[(9,(.int .i64 j))]) (λ (j,cur) w'=>Sat w0 ([cL v 3 (aa .i64) (cur)]++cs) w'/\(j<=a+k+1)/\(ly key a j cur=ly key a (a+k+1) (dF key a l k))/\(cur.length=l.length)/\(∀ x∈cur,D x)) (λ (j,cur)=>j) (a+k+1,dF key a l k) ⟨s1,KB _,rfl,km ..,hDk⟩ ?_
  rintro ⟨j,cur⟩ w2 ⟨s2,hj,hcur,hlc,hDc⟩
  refine .seq<| .seq ?_
  obtain ⟨x,hx⟩:∃ x,(cur)[j]? =some x:=⟨_,py (by omega)⟩
  obtain ⟨y,hy⟩:∃ y,(cur)[(j-1)]? =some y:=⟨_,py (by omega)⟩
  refine .md [0,1,2,3,8,9] rfl (λ K L' w'=>Weak ([(34,(.bool (decide ((a<j)/\(key x<key y)))))]++K) L'/\Sat w0 s2.L w') ?_ ?_
  ·refine .draw (λ w'=>Sat w0 ([cL v 3 (aa .i64) (cur)]++cs) w') (pl [0,1,2,3,4,5,6,7,8,9,10,11,12,13,1014,15,16] .fin) mixed (by kernel_rfl) ?_
   have s3:=s2.drew
   refine .z 4 s3 rfl<| .B 21 rfl (λ g1=> ?_) λ g1=> ?_
   ·refine .ix 3 s3 (·.ah 0 rfl) rfl<| .le 0 s3 (·.ah 0 rfl) hx rfl<| .ix 3 s3 (·.ah 0 rfl) rfl<| .le 0 s3 (·.ah 0 rfl) hy rfl<| .b 0 s3 rfl (.yV hE rfl rfl ((hcmp _ _ s3 (x) (y) (hDc _ (a7 hx)) (hDc _ (a7 hy))).mono λ r1 _ h1=> ?_))
    obtain ⟨z1,rfl,hz1,p1⟩:=h1
    have s4:Sat w0 ([cL v 3 (aa .i64) (cur)]++cs) _:=(s3.az p1).wI
    have S1:Sat w0 ([_]++cs) _:=s4.sub ((.cons_cons _ (.refl _)))
    refine ⟨S1,?_⟩
    refine .a 0 S1 rfl (λ _ s=> .Hr rfl rfl hz1)<| .Z S1 rfl ?_
    exact ⟨⟨If some (If Value.bool (by simp [g1])),rfl,rfl,rfl,rfl,rfl,rfl,trivial⟩,s4⟩
   refine .Z s3 rfl ?_
   exact ⟨⟨If some (If Value.bool (by simp [g1])),rfl,rfl,rfl,rfl,rfl,rfl,trivial⟩,s3⟩
  rintro L' w4 ⟨hw1,s5⟩
  refine .weaken _ hw1<| .ae rfl (λ c2=> ?_) λ c2=> ?_
  ·refine .skip<| .seq<| .block ?_
   have hshp1:=(s5.ah (E:=aa .i64) 0 rfl).iH (by decide)
   refine .Ce (λ w'=>Sat w0 ([cL v 3 (aa .i64) (cur)]++cs) w') (λ w'=>Sat w0 ([]++cs) w') 15 (pl [0,1] (.loose 2 (.loose 3 (.loose 4 (pl [5,6,7,8,9] (.loose 10 (.loose 11 (.loose 12 (pl [13,14] (.bar 15 (pl [16,1017] .fin))))))))))) (λ w' h=>h.sub ((.cons _ (.refl _)))) mixed (by kernel_rfl) ?_
   have s6:=s5.drew
   refine .z 2 s6 rfl<| .loose rfl rfl rfl (λ _ s=> .move rfl) s6<| .loose rfl rfl rfl (λ _ s=> .move rfl) s6<| .loose rfl rfl rfl (λ _ s=> .MW (b:=1) rfl rfl (by omega) (by omega)) s6<| .ix 3 s6 (·.ah 0 rfl) rfl<| .le 0 s6 (·.ah 0 rfl) hy rfl<| .loose rfl rfl rfl (λ _ s=> .move rfl) s6<| .loose rfl rfl rfl (λ _ s=> .move rfl) s6<| .loose rfl rfl rfl (λ _ s=> .kJ aQ rfl rfl hshp1 (by omega)) s6<| .le 0 s6 (·.ah 0 rfl) hx rfl<| .ix 0 s6 (·.ah 0 rfl) rfl<| .bar rfl rfl rfl (OpE.cH (a:=y) 0 cQ s6 rfl rfl rfl rfl (by (try simp only [PJ]);omega) λ _ s7 _=> ?_)
   have S2:Sat w0 ([]++cs) _:=s7.sub ((.cons _ (.refl _)))
   refine ⟨S2,?_⟩
   refine .e rfl (λ _ s=> .kJ aQ rfl rfl hshp1 (by omega)) S2<| .f rfl (.cH (a:=x) 0 cQ s7 rfl rfl rfl rfl (by (try simp only [PJ]);omega) λ _ s8 _=> ?_)
   have S3:Sat w0 ([]++cs) _:=s8.sub ((.cons _ (.refl _)))
   refine ⟨S3,?_⟩
   refine .fin<| .U rfl ?_
   exact aT (j-1,(cur.set j y).set (j-1) x) ⟨s8,by omega,by rw [<-hcur,vQ c2 hx hy],by simp only [PJ];exact hlc,λ z hz=>hDc z (xl hx hy hz)⟩
  refine .ao ?_
  have hDk1:∀ x∈dF key a l (k+1),D x:=by rw [show dF key a l (k+1)=cur from ((iV c2 hx hy).symm.trans hcur).symm];exact hDc
  have s9:Sat w0 ([cL v 3 (aa .i64) (dF key a l (k+1))]++cs) w4:=by
   have hq:cur=dF key a l (k+1):=(iV c2 hx hy).symm.trans hcur
   rw [<-hq];exact s5
  refine .U rfl ?_
  exact aT (k+1) ⟨s9,.inr (by omega),hDk1⟩
 refine .ao ?_
 show aL _ _ _ _ _ _
 refine cv rfl ?_
 have s10:Sat w0 ([cL v 3 (aa .i64) (dF key a l (b-a-1))]++cs) w1:=by
  have hq:dF key a l k=dF key a l (b-a-1):=by rw [show k=b-a-1 by omega]
  rw [<-hq];exact s1
 exact ⟨rfl,s10⟩
theorem Nb (w0 w:World) (cs:List Chunk) (v:Value) (l:List Nat) (n:Nat) (key:Nat->Nat) (D:Nat->Prop) (fi:FuncId) (cap:Array Value) (hE:Enters prog fi) (hcmp:tA prog fi cap (λ x:Nat=>Value.int .i64 (x:Int)) key D w0 cs) (hs:Sat w0 ([cL v 3 (aa .i64) (l)]++cs) w) (hD:∀ x∈l,D x) (hnl:n=l.length) (hn:l.length<=16):
  CallsV prog 284 [v,(.int .i64 n),(.func (.func fi) #[] cap)] w λ r w'=>r= .tuple #[]/\Sat w0 ([cL v 3 (aa .i64) (bz key l)]++cs) w':=by
 refine ai func284 rfl rfl ?_
 refine .Z rfl<| .Z rfl<| .seq<| .block<| .lq [0,1,2,6,7,8,10] rfl (α:=Unit) (λ _=>[]) (λ _ w'=>Sat w0 hs.L w') (λ _=>0) () hs ?_
 rintro _ w1 s1
 refine .seq<| .Z rfl<| .aj rfl (IN (by omega))<| .ao<| .h<| .z 4 rfl ?_
 have A1:Sat w0 ([cL v 3 (aa .i64) (l)]++([]++cs)) _:=(Sat.order [0] (by decide) s1).cut 1
 refine .c 0 (Na w0 _ cs v (l) (0) (n) key D fi cap hE hcmp A1 (hD) (KD _) (by omega) (by omega)) rfl λ r1 _ h1=> ?_
 obtain ⟨rfl,p1⟩:=h1
 have s2:Sat w0 ([cL v 3 (aa .i64) (dF key 0 (l) (n-0-1))]++cs) _:=p1
 refine .nil<| .block<| .lq [0,1,2,6,7,8,10,11,12,23,24,25,26,27] rfl (α:=Unit) (λ _=>[]) (λ _ w'=>Sat w0 s2.L w') (λ _=>0) () s2 ?_
 rintro _ w3 s3
 refine .seq<| .Z rfl<| .aj rfl (IN (by omega))<| .ao ?_
 show aL _ _ _ _ _ _
 refine cv rfl ?_
 have s4:Sat w0 ([cL v 3 (aa .i64) (bz key l)]++cs) w3:=by
  have hq:dF key 0 (l) (n-0-1)=bz key l:=tB hnl
  rw [<-hq];exact s3
 exact ⟨rfl,s4⟩
theorem Nc (w0 w:World) (cs:List Chunk) (v:Value) (l:List Nat) (key:Nat->Nat) (D:Nat->Prop) (fi:FuncId) (cap:Array Value) (hE:Enters prog fi) (hcmp:tA prog fi cap (λ x:Nat=>Value.int .i64 (x:Int)) key D w0 cs) (hs:Sat w0 ([cL v 3 (aa .i64) (l)]++cs) w) (hD:∀ x∈l,D x) (hn:l.length<=16):
  CallsV prog 277 [v,(.func (.func fi) #[] cap)] w λ r w'=>r= .tuple #[]/\Sat w0 ([cL v 3 (aa .i64) (bz key l)]++cs) w':=by
 refine ai func277 rfl rfl ?_
 refine .region<| .ln 2 (hs.ah 0 rfl) rfl<| .z 1 rfl ?_
 have A1:Sat w0 ([cL v 3 (aa .i64) (l)]++([]++cs)) _:=(Sat.order [0] (by decide) hs).cut 1
 refine .c 0 (Nb w0 _ cs v (l) (l.length) key D fi cap hE hcmp A1 hD rfl hn) rfl λ r1 _ h1=> ?_
 obtain ⟨rfl,p1⟩:=h1
 have s1:Sat w0 ([cL v 3 (aa .i64) (bz key (l))]++cs) _:=p1
 refine .nil ?_
 show aL _ _ _ _ _ _
 refine cv rfl ?_
 exact ⟨rfl,s1⟩
theorem Ii (a b:It) (w:World) (ha:a.w<2^62) (hb:b.w<2^62):
  CallsV prog 261 [((b9).ag a),((b9).ag b)] w λ r w'=>∃ z:Int,r= .int .i64 z/\(z<0↔a.w<b.w)/\Sat w [] w':=by
 refine cg func261 rfl λ hs0=> .h<| .bx 0 hs0 rfl λ b1 _ s1 _ _=> .bx 0 s1 rfl λ b2 _ s2 _ _=> .Z rfl<| .h<| .ld 1 s2 0 rfl<| .ld 1 s2 1 rfl<| .e rfl (.sub rfl rfl (by unfold aY;omega))<| .Z rfl<| .aC rfl rfl ?_
 exact ⟨_,rfl,by omega,s2.pk []⟩
theorem Ij (a b:It) (w:World) (ha:a.w<2^62) (hb:b.w<2^62):
  CallsV prog 263 [((b9).ag a),((b9).ag b)] w λ r w'=>∃ z:Int,r= .int .i64 z/\(z<0↔a.w<b.w)/\Sat w [] w':=by
 refine cg func263 rfl λ hs0=> .h<| .bx 0 hs0 rfl λ b1 _ s1 _ _=> .bx 0 s1 rfl λ b2 _ s2 _ _=> .Z rfl<| .h<| .ld 1 s2 0 rfl<| .ld 1 s2 1 rfl<| .e rfl (.sub rfl rfl (by unfold aY;omega))<| .Z rfl<| .aC rfl rfl ?_
 exact ⟨_,rfl,by omega,s2.pk []⟩
theorem CJ (v:Value) (c:List Nat) (w:World) (hv:RdL w v (aa .i64) c) (hn:c.length<=8) (hc:∀ x∈c,x<=4096):
  CallsV prog 229 [v,(.int .i64 (15:Nat))] w λ r w'=>r= .int .i64 0/\Sat w [] w':=by
 refine cg func229 rfl λ hs0=> .Z rfl<| .seq<| .block<| .seq<| .bN 8 ((15<1)\/(15<15)) ?_ ?_
 ·refine .M rfl (by simp [])
 refine .aj rfl (IN (by omega))<| .h<| .ln 1 (hv.ext hs0.ext) rfl<| .Z rfl<| .aj rfl (IN (by omega))<| .skip<| .Z rfl<| .seq<| .h<| .ln 1 (hv.ext hs0.ext) rfl<| .Z rfl<| .block<| .lq [1,19,20] rfl (α:=Nat×Nat) (λ (k,p)=>[(5,(.int .i64 p)),(21,(.int .i64 k))]) (λ (k,p) w'=>Sat w [] w'/\(k<=c.length)/\(p<=k)) (λ (k,p)=>c.length-k) (0,0) ⟨hs0,KD _,KB _⟩ ?_
 rintro ⟨k,p⟩ w1 ⟨s1,hk,hp⟩
 refine .Z rfl<| .seq<| .ae rfl (λ c1=> ?_) λ c1=> ?_
 ·refine .skip<| .seq<| .block<| .seq ?_
  obtain ⟨x,hx⟩:∃ x,(c)[k]? =some x:=⟨_,py c1⟩
  refine .region<| .ix 0 (hv.ext s1.ext) rfl<| .le 0 (hv.ext s1.ext) hx rfl<| .Z rfl<| .seq<| .seq<| .bN 30 ((x<0)\/(4096<x)) ?_ ?_
  ·refine .z 3 rfl<| .B 27 rfl (λ g1=> ?_) λ g1=> ?_
   ·refine .M rfl (by simp [g1])
   refine .M rfl (by simp [g1])
  refine .aj rfl (IN (by have:=hc x (a7 hx);omega))<| .skip<| .Z rfl<| .ae rfl (λ c2=> ?_) λ c2=> ?_
  ·refine .U rfl<| .U rfl ?_
   exact aT (k+1,(p+1)) ⟨s1,by omega,by omega⟩
  refine .skip<| .U rfl ?_
  exact aT (k+1,p) ⟨s1,by omega,by omega⟩
 refine .ao<| .seq<| .h<| .a 2 rfl (.HH (a:=1) (b:=15) rfl rfl (by omega) (by omega))<| .Z rfl<| .aj rfl (IN (by omega))<| .skip<| .Z rfl<| .aC rfl rfl ?_
 exact ⟨rfl,s1⟩
theorem En (v:Value) (l:List Nat) (w:World) (hv:RdL w v (aa .i64) l) (hn:l.length<=8):
  CallsV prog 232 [v] w λ r w'=>r= .bool (eC l)/\Sat w [] w':=by
 refine cg func232 rfl λ hs0=> .Z rfl<| .seq<| .h<| .ln 1 (hv.ext hs0.ext) rfl<| .Z rfl<| .aj rfl (IN (by omega))<| .skip<| .Z rfl<| .seq<| .h<| .ln 1 (hv.ext hs0.ext) rfl<| .Z rfl<| .block<| .lq [9,10] rfl (α:=Nat×Nat) (λ (k,s)=>[(3,(.int .i64 s)),(11,(.int .i64 k))]) (λ (k,s) w'=>Sat w [] w'/\(k<=l.length)/\(s=iB (l.take k))/\(s<=k*2^14)/\(∀ x∈l.take k,x<=15)) (λ (k,s)=>l.length-k) (0,0) ⟨hs0,KD _,rfl,KD _,by simp⟩ ?_
 rintro ⟨k,s⟩ w1 ⟨s1,hk,hsum,hsb,hall⟩
 refine .Z rfl<| .seq<| .ae rfl (λ c1=> ?_) λ c1=> ?_
 ·refine .skip<| .seq<| .block<| .seq ?_
  obtain ⟨x,hx⟩:∃ x,(l)[k]? =some x:=⟨_,py c1⟩
  refine .region<| .ix 0 (hv.ext s1.ext) rfl<| .le 0 (hv.ext s1.ext) hx rfl<| .Z rfl<| .seq<| .seq<| .bN 20 ((x<0)\/(15<x)) ?_ ?_
  ·refine .z 3 rfl<| .B 17 rfl (λ g1=> ?_) λ g1=> ?_
   ·refine .M rfl (by simp [g1])
   refine .M rfl (by simp [g1])
  refine .ae rfl (λ c2=> ?_) λ c2=> ?_
  ·refine .Z rfl<| .aC rfl rfl ?_
   exact ⟨by rw [rP (a7 hx) (by omega)],s1⟩
  refine .skip<| .Z rfl<| .ae rfl (λ c3=> ?_) λ c3=> ?_
  ·have h2:2^(15-x)<=2^14:=Qg (by decide) (by omega)
   refine .region<| .a 3 rfl (.HH (a:=1) rfl rfl (by omega) (by omega))<| .Z rfl<| .U rfl ?_
   exact aT (k+1,(s+(1*2^(15-x)))) ⟨s1,by omega,by rw [ak hx,fA,<-hsum];simp [iB,kr,c3],by omega,all_take hall hx (by omega)⟩
  refine .skip<| .U rfl ?_
  exact aT (k+1,s) ⟨s1,by omega,by rw [ak hx,fA,<-hsum];simp [iB,kr,c3],by omega,all_take hall hx (by omega)⟩
 refine .ao<| .Z rfl<| .aC rfl rfl ?_
 rw [show k=l.length by omega,PW] at hsum hall
 exact ⟨by rw [u6 hall,hsum],s1⟩
theorem Eo (v:Value) (l:List It) (w:World) (hv:RdL w v b9 l) (hn:l.length<=1000000) (h0:0<l.length):
  CallsV prog 262 [v] w λ r w'=>Sat w [cL r 288 b9 l] w':=by
 refine cg func262 rfl λ hs0=> .Z rfl<| .seq<| .h<| .a 1 rfl (.N1 underlying285 rfl rfl (RdL.iH (E:=b9) (hv.ext hs0.ext) (by decide)) (by omega))<| .nil<| .aj rfl (rfl)<| .skip<| .h<| .f rfl (.tg (b9) pI hs0 λ v1 _ s1 _=> ?_)
 refine .ap 1 s1 0 (hv.ext s1.ext) rfl λ v2 _ s2 _=> .Z rfl<| .aC rfl rfl ?_
 exact s2
theorem xm (v:Value) (c:List Nat) (w:World) (hv:RdL w v (aa .i64) c) (hn:c.length<=8) (hc:∀ x∈c,x<=4096):
  CallsV prog 230 [v] w λ r w'=>Sat w [cL r 288 b9 (leaves c)] w':=by
 refine cg func230 rfl λ hs0=> .Z rfl<| .Z rfl<| .seq<| .h<| .ln 1 (hv.ext hs0.ext) rfl<| .Z rfl<| .block ?_
 have s1:=hs0.aA 288 (b9)
 refine .lq [6,7] rfl (α:=Nat×Value) (λ (k,ov)=>[(3,ov),(8,(.int .i64 k))]) (λ (k,ov) w'=>Sat w [cL ov 288 (b9) (aN 0 (c.take k))] w'/\(k<=c.length)) (λ (k,ov)=>c.length-k) (0,(.slice none 0 0)) ⟨s1,KD _⟩ ?_
 rintro ⟨k,ov⟩ w1 ⟨s2,hk⟩
 refine .Z rfl<| .seq<| .ae rfl (λ c1=> ?_) λ c1=> ?_
 ·refine .skip<| .seq<| .block<| .seq ?_
  obtain ⟨x,hx⟩:∃ x,(c)[k]? =some x:=⟨_,py c1⟩
  refine .region<| .ix 1 (hv.ext s2.ext) rfl<| .le 0 (hv.ext s2.ext) hx rfl<| .Z rfl<| .Z rfl<| .ae rfl (λ c2=> ?_) λ c2=> ?_
  ·have hll:=er (c.take k) 0
   rw [KV] at hll
   refine .region<| .a 3 rfl (.build L2 rfl ⟨rfl,rfl,trivial⟩ rfl)<| .f rfl (.cn (b9) (⟨x,k,0,0⟩:It) pI (by decide) (by decide) s2 rfl λ v1 _ s3 _=> ?_)
   refine .ap 0 s3 0 (s3.ah 1 rfl) rfl λ v2 _ s4 _=> ?_
   refine .Z rfl<| .U rfl ?_
   have s5:=(s4.pk [0]).aZ 0 rfl (show aN 0 (c.take k)++[(⟨x,k,0,0⟩:It)]=aN 0 (c.take (k+1)) from by rw [ak hx,fB];simp [c2];try omega)
   exact aT (k+1,v2) ⟨s5,by omega⟩
  refine .skip<| .U rfl ?_
  have s6:=s2.aZ 0 rfl (show aN 0 (c.take k)=aN 0 (c.take (k+1)) from by rw [ak hx,fB];simp [c2];try omega)
  exact aT (k+1,ov) ⟨s6,by omega⟩
 refine .ao<| .seq ?_
 have s7:=s2.aZ 0 rfl (show aN 0 (c.take k)=aN 0 c from by rw [show k=c.length by omega,PW])
 refine .region<| .z 1 rfl ?_
 have A1:=s7.tail.oc [0] 1
 refine .c 0 (Kl w _ _ ov (aN 0 c) (It.w) (λ x:It=>x.w<2^62) 261 #[] MC (λ _ w _ a b ha hb=>Ii a b w ha hb) A1 (λ x hx=>by have:=hc _ (jk _ _ x hx).1;show x.w<2^62;omega) (by have:=er c 0;omega)) rfl λ r1 _ h1=> ?_
 obtain ⟨rfl,p1⟩:=h1
 have s8:=(Sat.order [0] (by decide) p1.join).aI.nn
 refine .nil<| .Z rfl<| .aC rfl rfl ?_
 exact s8
theorem Ik (a b g:Nat) (v:Value) (l:List Nat) (w:World) (hc:w.cell? ⟨g,0,none⟩=some v) (hv:RdL w v (aa .i64) l) (hb:∀ x∈l,x<2^62) (ha:a<l.length) (hb2:b<l.length):
  CallsV prog 278 [(.int .i64 a),(.int .i64 b),(.pointer (some ⟨g,0,none⟩))] w λ r w'=>∃ z:Int,r= .int .i64 z/\(z<0↔l.getD a 0<l.getD b 0)/\Sat w [] w':=by
 refine cg func278 rfl λ hs0=> .Z rfl<| .seq ?_
 obtain ⟨x,hx⟩:∃ x,(l)[a]? =some x:=⟨_,py (ha)⟩
 obtain ⟨y,hy⟩:∃ y,(l)[b]? =some y:=⟨_,py (hb2)⟩
 have h1:=hb x (a7 hx)
 have h2:=hb y (a7 hy)
 refine .dk [] hs0 rfl (pl [0,1,2,3,4,5,6,7,8,9] .fin) λ s1 S1=> .e rfl (λ _ s=> .load oT rfl (s.ext _ _ hc)) S1<| .ix 1 S1 (hv.ext ·.ext) rfl<| .le 0 S1 (hv.ext ·.ext) hx rfl<| .e rfl (λ _ s=> .load oT rfl (s.ext _ _ hc)) S1<| .ix 1 S1 (hv.ext ·.ext) rfl<| .le 0 S1 (hv.ext ·.ext) hy rfl<| .e rfl (λ _ s=> .sub rfl rfl (by unfold aY;omega)) S1<| .Z S1 rfl<| .aC rfl rfl ?_
 exact ⟨_,rfl,by rw [KW,KW,hx,hy];simp only [Rb];omega,s1.pk []⟩
theorem zD (v:Value) (l:List Nat) (w:World) (hv:RdL w v (aa .i64) l) (hn:l.length<=8) (hb:∀ x∈l,x<2^62):
  CallsV prog 264 [v] w λ r w'=>Sat w [cL r 3 (aa .i64) (cx l)] w':=by
 refine cg func264 rfl λ hs0=> .h<| .bx 0 hs0 rfl λ b1 w1 s1 _ _=> ?_
 have s1d:Sat w [aq b1 22 [v]] w1:=by
  have hq:=cells_one ((hv.ext hs0.ext).ab)
  rw [hq] at s1;exact s1
 refine .Z rfl<| .Z rfl<| .seq<| .h<| .ld 0 s1d 0 rfl<| .ln 0 (hv.ext s1d.ext) rfl<| .Z rfl<| .block ?_
 have s2:=s1d.aA 3 (aa .i64)
 refine .lq [1,6,7] rfl (α:=Nat×Value) (λ (k,ov)=>[(3,ov),(8,(.int .i64 k))]) (λ (k,ov) w'=>Sat w (s2.U [(1,cL ov 3 (aa .i64) (bn 0 (l.take k)))]) w'/\(k<=l.length)) (λ (k,ov)=>l.length-k) (0,(.slice none 0 0)) ⟨s2,KD _⟩ ?_
 rintro ⟨k,ov⟩ w2 ⟨s3,hk⟩
 refine .Z rfl<| .seq<| .ae rfl (λ c1=> ?_) λ c1=> ?_
 ·refine .skip<| .seq<| .block<| .seq ?_
  obtain ⟨x,hx⟩:∃ x,(l)[k]? =some x:=⟨_,py c1⟩
  refine .region<| .ix 1 (hv.ext s3.ext) rfl<| .le 0 (hv.ext s3.ext) hx rfl<| .Z rfl<| .Z rfl<| .ae rfl (λ c2=> ?_) λ c2=> ?_
  ·have hll:=fp (l.take k) 0
   rw [KV] at hll
   refine .region<| .b 2 rfl (.bU (aa .i64) k aQ rfl s3 rfl λ v1 _ s4 _=> ?_)
   refine .ap 0 s4 1 (s4.ah 2 rfl) rfl λ v2 _ s5 _=> ?_
   refine .Z rfl<| .U rfl ?_
   have s6:=(s5.pk [0,1]).aZ 1 rfl (show bn 0 (l.take k)++[k]=bn 0 (l.take (k+1)) from by rw [ak hx,ko];simp [c2];try omega)
   exact aT (k+1,v2) ⟨s6,by omega⟩
  refine .skip<| .U rfl ?_
  have s7:=s3.aZ 1 rfl (show bn 0 (l.take k)=bn 0 (l.take (k+1)) from by rw [ak hx,ko];simp [c2];try omega)
  exact aT (k+1,ov) ⟨s7,by omega⟩
 refine .ao<| .seq ?_
 have s8:=s3.aZ 1 rfl (show bn 0 (l.take k)=bn 0 l from by rw [show k=l.length by omega,PW])
 refine .region<| .a 1 rfl (.oW rfl) ?_
 have A1:=s8.tail.oc [1,0] 1
 refine .c 0 (Nc w _ _ ov (bn 0 l) (aE l) (λ i=>i<l.length) 278 #[(.pointer (some ⟨b1,0,none⟩))] ME (λ _ w' hq a b ha hb2=>Ik a b _ v l w' (hq.cell (i:=1) (j:=0) rfl rfl) (hv.ext hq.ext) hb ha hb2) A1 (λ x hx=>by have:=jl _ _ x hx;omega) (by have:=fp l 0;omega)) rfl λ r1 _ h1=> ?_
 obtain ⟨rfl,p1⟩:=h1
 have s9:=(Sat.order [1,0] (by decide) p1.join).aI.nn
 refine .nil<| .Z rfl<| .aC rfl rfl ?_
 exact s9.pk [1]
theorem zE (v:Value) (l:List Nat) (w:World) (hv:RdL w v (aa .i64) l) (hn:l.length<=8) (hb:∀ x∈l,x<=15):
  CallsV prog 233 [v] w λ r w'=>Sat w [cL r 132 (aa .u64) (ff l)] w':=by
 refine cg func233 rfl λ hs0=> .Z rfl<| .seq ?_
 have hil:=vR l
 refine .region<| .ln 1 (hv.ext hs0.ext) rfl<| .f rfl (.cP (aa .u64) (0) Hl rfl hs0 rfl rfl (by omega) (by omega) (by omega) λ v1 _ s1 _=> ?_)
 refine .Z rfl<| .Z rfl<| .seq<| .h<| .c 1 (zD _ (l) _ (hv.ext s1.ext) (hn) (λ x hx=>by have:=hb x hx;omega)) rfl λ r1 _ h1=> ?_
 have s2:=s1.az h1
 refine .ln 0 (s2.ah 1 rfl) rfl<| .Z rfl<| .block<| .lq [0,3,12,13] rfl (α:=Nat×Nat×Nat×List Nat) (λ (k,code,bef,cds)=>[(4,(.int .u64 code)),(5,(.int .i64 bef)),(14,(.int .i64 k))]) (λ (k,code,bef,cds) w'=>Sat w (s2.U [(0,cL v1 132 (aa .u64) (cds))]) w'/\(k<=(cx l).length)/\(eD l ((cx l).take k)=(k,code,bef,cds))/\(code<2^64)/\(cds.length=l.length)/\(∀ j y,k<=j->(cx l)[j]? =some y->bef<=aE l y)) (λ (k,code,bef,cds)=>(cx l).length-k) (0,0,0,List.replicate l.length 0) ⟨s2,KD _,rfl,by omega,by simp,λ _ _ _ _=>KD _⟩ ?_
 rintro ⟨k,code,bef,cds⟩ w3 ⟨s3,hk,hst,hcd,hcl,hbef⟩
 refine .Z rfl<| .seq<| .ae rfl (λ c1=> ?_) λ c1=> ?_
 ·refine .skip<| .seq<| .block<| .seq ?_
  obtain ⟨x,hx⟩:∃ x,(cx (l))[k]? =some x:=⟨_,py (c1)⟩
  have hxm:=l3 l x (a7 hx)
  obtain ⟨n,hn1⟩:∃ n,l[x]? =some n:=⟨_,py hxm.1⟩
  have hnk:aE l x=n:=by simp [aE,KW,hn1]
  have hbn:=hbef k x (KB _) hx
  have hn15:=hb n (a7 hn1)
  refine .region<| .ix 1 (s3.ah 1 rfl) rfl<| .le 0 (s3.ah 1 rfl) hx rfl<| .Z rfl<| .seq<| .Z rfl<| .ae rfl (λ c2=> ?_) λ c2=> ?_
  ·refine .region<| .a 1 rfl (.MZ (b:=1) rfl rfl rfl)<| .ix 2 (hv.ext s3.ext) rfl<| .le 0 (hv.ext s3.ext) hn1 rfl<| .Z rfl<| .region<| .ix 5 (hv.ext s3.ext) rfl<| .le 0 (hv.ext s3.ext) hn1 rfl<| .ix 0 (s3.ah 0 rfl) rfl<| .f rfl (.cH (a:=(((code+1)%2^64)*2^(n-bef)%2^64)) 0 wA s3 rfl rfl rfl rfl (by omega) λ _ s4 _=> ?_)
   have s4:=s4.nn
   refine .Z rfl<| .U rfl ?_
   exact aT (k+1,(((code+1)%2^64)*2^(n-bef)%2^64),n,cds.set x (((code+1)%2^64)*2^(n-bef)%2^64)) ⟨s4,by omega,by rw [ak hx,dV,hst];simp [fM,hnk,c2];try omega,by omega,by simp only [PJ];exact hcl,λ j y hj hy=>by rw [<-hnk];exact (cd _).get (by omega) hx hy⟩
  refine .skip<| .region<| .ix 5 (hv.ext s3.ext) rfl<| .le 0 (hv.ext s3.ext) hn1 rfl<| .ix 0 (s3.ah 0 rfl) rfl<| .f rfl (.cH (a:=code) 0 wA s3 rfl rfl rfl rfl (by omega) λ _ s5 _=> ?_)
  have s5:=s5.nn
  refine .Z rfl<| .U rfl ?_
  exact aT (k+1,code,n,cds.set x code) ⟨s5,by omega,by rw [ak hx,dV,hst];simp [fM,hnk,c2];try omega,by omega,by simp only [PJ];exact hcl,λ j y hj hy=>by rw [<-hnk];exact (cd _).get (by omega) hx hy⟩
 refine .ao<| .Z rfl<| .aC rfl rfl ?_
 have s7:=(s3.pk [0]).aZ 0 rfl (show cds=ff l from by unfold ff;rw [show cx l=(cx l).take k by rw [show k=(cx l).length by omega,PW],hst])
 exact s7
theorem Il (v u:Value) (l b:List It) (W:Nat) (w:World) (hv:RdL w v b9 l) (hu:RdL w u b9 b) (hn:l.length<=8) (hl0:0<l.length) (hbn:b.length<=16) (hwl:∀ x∈l,x.w<=W) (hwb:∀ x∈b,x.w<=W) (hW:W<=2^50):
  CallsV prog 231 [v,u] w λ r w'=>Sat w [cL r 288 b9 (iX l b)] w':=by
 refine cg func231 rfl λ hs0=> .Z rfl<| .h<| .c 1 (Eo _ (l) _ (hv.ext hs0.ext) (by omega) (by omega)) rfl λ r1 _ h_1=> ?_
 have s1:=hs0.az h_1
 refine .Z rfl<| .seq<| .Z rfl<| .block ?_
 have s2:=s1.aZ 0 rfl (show l=l++bm 0 (b.take (2*0)) from by simp [bm])
 refine .lq [1] rfl (α:=Nat×Value) (λ (q,ov)=>[(5,ov),(6,(.int .i64 ((2*q):Nat)))]) (λ (q,ov) w'=>Sat w [cL ov 288 (b9) (l++bm 0 (b.take (2*q)))] w'/\(2*q<=b.length)) (λ (q,ov)=>b.length-2*q) (0,r1) ⟨s2,KD _⟩ ?_
 rintro ⟨q,ov⟩ w2 ⟨s3,hq⟩
 refine .seq<| .h<| .ln 3 (hu.ext s3.ext) rfl<| .Z rfl<| .ae rfl (λ c1=> ?_) λ c1=> ?_
 ·refine .skip<| .seq<| .block ?_
  obtain ⟨x,hx⟩:∃ x,(b)[(2*q)]? =some x:=⟨_,py (by omega)⟩
  obtain ⟨y,hy⟩:∃ y,(b)[((2*q)+1)]? =some y:=⟨_,py (by omega)⟩
  have h1:=hwb x (a7 hx)
  have h2:=hwb y (a7 hy)
  have hpl:=eO 0 (b.take (2*q))
  rw [KV] at hpl
  have hshp1:=(s3.ah (E:=b9) 0 rfl).iH (by decide)
  refine .dk [] s3 rfl (pl [0,1,2,3,4,5,6,7,8,9,10,11,12,13,14,15,16,1017,1018,19] .fin) λ s4 S1=> .ix 3 S1 (hu.ext ·.ext) rfl<| .fl 0 S1 (hu.ext ·.ext) rfl<| .lf 0 S1 (hu.ext ·.ext) hx rfl<| .ix 3 S1 (hu.ext ·.ext) rfl<| .fl 0 S1 (hu.ext ·.ext) rfl<| .lf 0 S1 (hu.ext ·.ext) hy rfl<| .z 4 S1 rfl<| .e rfl (λ _ s=> .build L2 rfl ⟨rfl,rfl,rfl,rfl,trivial⟩ rfl) S1<| .f rfl (.cn (b9) (⟨x.w+y.w,-1,2*q,2*q+1⟩:It) pI (by decide) (by decide) s4 rfl λ v1 _ s5 _=> ?_)
  have s5:=s5.nn
  have S2:=s5.pk []
  refine ⟨S2,?_⟩
  refine .f rfl (.aw 0 pI s5 rfl rfl rfl underlying285 (s5.ah 1 rfl) (by simp;omega) (by simp;omega) λ v2 _ s6 _=> ?_)
  have s6:=s6.pk [0]
  have S3:=s6.pk []
  refine ⟨S3,?_⟩
  refine .Z S3 rfl<| .U rfl ?_
  have s7:=s6.aZ 0 rfl (show l++bm 0 (b.take (2*q))++[(⟨x.w+y.w,-1,2*q,2*q+1⟩:It)]=l++bm 0 (b.take (2*(q+1))) from by rw [rQ q 0 b x y hx hy];simp)
  exact aT (q+1,v2) ⟨s7,by omega⟩
 refine .ao<| .seq ?_
 have s8:=s3.aZ 0 rfl (show l++bm 0 (b.take (2*q))=l++bm 0 b from by rw [u7 q 0 b (by omega)])
 refine .region<| .z 1 rfl ?_
 have A1:=s8.tail.oc [0] 1
 refine .c 0 (Kl w _ _ ov (l++bm 0 b) (It.w) (λ x:It=>x.w<2^62) 263 #[] MD (λ _ w _ a b ha hb=>Ij a b w ha hb) A1 (λ x hx=>by show x.w<2^62;rcases PT.1 hx with hx|hx;(have:=hwl x hx;omega);(have:=(oJ 0 b W hwb x hx).1;omega)) (by rw [sp,eO];omega)) rfl λ r2 _ h_2=> ?_
 obtain ⟨rfl,p2⟩:=h_2
 have s9:=(Sat.order [0] (by decide) p2.join).aI.nn
 refine .nil<| .Z rfl<| .aC rfl rfl ?_
 exact s9
set_option maxHeartbeats 2000000 in
theorem zF (v:Value) (c:List Nat) (w:World) (hv:RdL w v (aa .i64) c) (hn:c.length<=8) (hc:∀ x∈c,x<=4096):
  CallsV prog 188 [v,(.int .i64 (15:Nat))] w λ r w'=>∃ v',r= .tuple #[v',.int .i64 0]/\Sat w [cL v' 3 (aa .i64) (ca c)] w':=by
 refine cg func188 rfl λ hs0=> .Z rfl<| .seq<| .h<| .cp 2 hs0 (CJ _ (c) _ (hv.ext hs0.ext) (hn) (hc)) rfl λ _ s1=> .Z rfl<| .Z rfl<| .aj rfl (rfl)<| .skip<| .seq ?_
 have hll0:=dA c
 refine .region<| .ln 1 (hv.ext s1.ext) rfl<| .f rfl (.cP (aa .i64) (0) aQ rfl s1 rfl rfl (by omega) (by omega) (by omega) λ v1 _ s2 _=> ?_)
 refine .Z rfl<| .h<| .c 1 (xm _ (c) _ (hv.ext s2.ext) (hn) (hc)) rfl λ r2 _ h_2=> ?_
 have s3:=(s2.az h_2).nn
 obtain ⟨sv1,hsv1,hsv1n⟩:=(s3.ah 1 rfl).sv
 subst hsv1
 refine .Z rfl<| .seq<| .h<| .ln 1 (s3.ah 1 rfl) rfl<| .Z rfl<| .ae rfl (λ c1=> ?_) λ c1=> ?_
 ·refine .seq<| .h<| .ln 1 (s3.ah 1 rfl) rfl<| .Z rfl<| .block<| .lq [7,31,32] rfl (α:=Nat×List Nat) (λ (q,cur)=>[(33,(.int .i64 q))]) (λ (q,cur) w'=>Sat w (s3.U [(0,cL v1 3 (aa .i64) (cur))]) w'/\(q<=(leaves c).length)/\(cur=((leaves c).take q).foldl (λ ls x=>ls.set x.sym.toNat 1) (List.replicate c.length 0))/\(cur.length=c.length)) (λ (q,cur)=>(leaves c).length-q) (0,List.replicate c.length 0) ⟨s3,KD _,rfl,by simp⟩ ?_
  rintro ⟨q,cur⟩ w4 ⟨s4,hq,hcur,hcl⟩
  refine .Z rfl<| .seq<| .ae rfl (λ c2=> ?_) λ c2=> ?_
  ·refine .skip<| .seq<| .block<| .seq ?_
   obtain ⟨x,hx⟩:∃ x,(leaves c)[q]? =some x:=⟨_,py (c2)⟩
   obtain ⟨hxw,n,hxs,hxn⟩:=cu c x (a7 hx)
   have hnl:=bQ hxn
   refine .region<| .ix 0 (s4.ah 1 rfl) rfl<| .lg 0 (s4.ah 1 rfl) hx rfl<| .al 0 s4 rfl λ b1 _ s5 _ _=> .sa 0 s5 2 rfl ((b9).one _) λ w6 s6 _=> .nil ?_
   have s7:Sat w [cL v1 3 (aa .i64) (cur),cL sv1.val 288 (b9) (leaves c),aq b1 288 [(.int .i64 x.w),(.int .i64 n),(.int .i64 x.lf),(.int .i64 x.rt)]] w6:=by have hq:=s6;(try dsimp only [b9] at hq);rw [hxs] at hq;exact hq
   refine .region<| .ld 2 s7 2 rfl<| .ix 0 (s7.ah 0 rfl) rfl<| .f rfl (.cH (a:=1) 0 cQ s7 rfl rfl rfl rfl (by (try simp only [PJ]);omega) λ _ s8 _=> ?_)
   have s8:=s8.nn
   refine .nil<| .U rfl ?_
   exact aT (q+1,cur.set n 1) ⟨s8.pk [0,1],by omega,by rw [ak hx,foldl_append,<-hcur];simp [hxs],by simp only [PJ];exact hcl⟩
  refine .ao<| .Z rfl<| .cj rfl rfl rfl ?_
  have s11:=(s4.pk [0]).aZ 0 rfl (show cur=ca c from by rw [hcur,show q=(leaves c).length by omega,PW];unfold ca;rw [PI c1])
  exact ⟨_,rfl,s11⟩
 refine .skip<| .h<| .b 1 rfl (.bU (ck It) (sv1,leaves c) Hk rfl s3 rfl λ v2 w8 s12 _=> ?_)
 refine .Z rfl<| .seq<| .Z rfl<| .block ?_
 have s13:=(Sat.order [0,2,1] (by decide) s12.tail).aI.pk [0,1,2]
 have s14:Sat w [cL v1 3 (aa .i64) (List.replicate (c.length) 0),cL v2 285 (ck It) ([(sv1,leaves c)]),bh 288 b9 ([]),cL sv1.val 288 (b9) (leaves c)] _:=Sat.order [0,1,3,2] (by decide) (s13.qp 164 b9).tail|>.aI
 have s15:Sat w [cL v1 3 (aa .i64) (List.replicate (c.length) 0),cL v2 285 (ck It) ([(sv1,leaves c)]),bh 288 b9 ([]++[(sv1,leaves c)])] w8:=Sat.kI (A:=[cL v1 3 (aa .i64) (List.replicate (c.length) 0),cL v2 285 (ck It) ([(sv1,leaves c)]),bh 288 b9 ([])]) s14 2 rfl
 refine .lq [7,8] rfl (α:=Nat×Value×List (SV×List It)) (λ (k,ov,ps)=>[(11,ov),(46,(.int .i64 (14:Nat))),(47,(.int .i64 k))]) (λ (k,ov,ps) w'=>Sat w (s15.U [(1,cL ov 285 (ck It) (ps)),(2,bh 288 b9 (ps))]) w'/\(k<=14)/\(ps.map Prod.snd=yl c (k+1))/\(ps[0]? =some (sv1,leaves c))) (λ (k,ov,ps)=>14-k) (0,v2,[(sv1,leaves c)]) ⟨s15,KD _,rfl,rfl⟩ ?_
 rintro ⟨k,ov,ps⟩ w9 ⟨s16,hk,hps,hp0⟩
 have hpl:ps.length=k+1:=by have:=If List.length hps;simpa [yl] using this
 refine .Z rfl<| .seq<| .ae rfl (λ c3=> ?_) λ c3=> ?_
 ·refine .skip<| .seq<| .block ?_
  obtain ⟨p,hp⟩:∃ p,(ps)[(ps.length-1)]? =some p:=⟨_,py (by omega)⟩
  have hp2:p.2=lvl c k:=by
   have h1:(ps.map Prod.snd)[k]? =some p.2:=by rw [PX,show k=ps.length-1 by omega,hp]<;>rfl
   rw [hps,ym c (by omega:k<k+1)] at h1;exact (Qz h1).symm
  have hW:4096*2^k<=2^50:=by have:2^k<=2^14:=Qg (by decide) (by omega);omega
  have hW1:4096<=4096*2^k:=RO _ (R1 k)
  have hlv:=gJ c k
  have hll:=dA c
  refine .region<| .ln 4 (s16.ah 1 rfl) rfl<| .ix 1 (s16.ah 1 rfl) rfl<| .le 0 (s16.ah 1 rfl) hp rfl<| .c 0 (Il _ _ (leaves c) (p.2) (4096*2^k) _ (show RdL _ sv1.val b9 (leaves c) from s16.bt 2 rfl hp0) (s16.bt 2 rfl hp) (by omega) (by omega) (by rw [hp2];omega) (λ x hx=>Q7 (hc _ (cu c x hx).1) hW1) (λ x hx=>by rw [hp2] at hx;exact KA c 4096 hc k x hx) (hW)) rfl λ r3 _ h3=> ?_
  have s17:=s16.az h3
  obtain ⟨sv2,hsv2,hsv2n⟩:=(s17.ah 3 rfl).sv
  subst hsv2
  refine .f rfl (.bU (ck It) (sv2,iX (leaves c) p.2) Hk rfl s17 rfl λ v3 _ s18 _=> ?_)
  refine .ap 0 s18 1 (s18.ah 4 rfl) rfl λ v_4 w12 s19 _=> ?_
  refine .Z rfl<| .U rfl ?_
  have s20:Sat w [cL v1 3 (aa .i64) (List.replicate (c.length) 0),cL v_4 285 (ck It) (ps++[(sv2,iX (leaves c) p.2)]),bh 288 b9 (ps++[(sv2,iX (leaves c) p.2)])] w12:=Sat.kI (A:=[cL v1 3 (aa .i64) (List.replicate (c.length) 0),cL v_4 285 (ck It) (ps++[(sv2,iX (leaves c) p.2)]),bh 288 b9 (ps)]) (s19.pick [0,1,2,3] rfl) 2 rfl
  exact aT (k+1,v_4,ps++[(sv2,iX (leaves c) p.2)]) ⟨s20,by omega,by rw [Ql,hps,DC c (k+1),hp2]<;>rfl,by rw [Q4 (by omega)];exact hp0⟩
 refine .ao<| .seq ?_
 have hk14:k=14:=by omega
 subst hk14
 have hpl:ps.length=15:=by have:=If List.length hps;simpa [yl] using this
 have hll:=dA c
 refine .region<| .ln 1 (show RdL _ sv1.val b9 (leaves c) from s16.bt 2 rfl hp0) rfl<| .Z rfl<| .seq<| .h<| .ln 1 (s16.ah 1 rfl) rfl<| .Z rfl<| .block<| .lp [7,11] rfl (α:=Nat×Nat×List Nat) (λ (kk,t,ls)=>[(12,(.int .i64 t)),(13,(.int .i64 ((((kk:Nat):Int)-1))))]) (λ (kk,t,ls) w'=>Sat w (s16.U [(0,cL v1 3 (aa .i64) (ls))]) w'/\(kk<=15)/\(t<=(lvl c (kk-1)).length)/\(down c kk t ls=ca c)/\(ls.length=c.length)/\(∀ x∈ls,x<=(15-kk)*4096)) (λ (kk,t,ls)=>kk) (15,2*(leaves c).length-2,List.replicate c.length 0) ⟨If some (If (Value.int .i64) (by omega)),If some (If (Value.int .i64) (by omega)),rfl,rfl,trivial⟩ ⟨s16,KB _,rR c (by omega) (by omega),by unfold ca;rw [M2 c1],by simp,λ x hx=>by have:=Rj hx;omega⟩ ?_
 rintro ⟨kk,t,ls⟩ w13 ⟨s21,hkk,ht,hdn,hls,hB⟩
 refine .seq<| .h<| .a 1 rfl (.geq rfl rfl)<| .nil<| .ae rfl (λ c4=> ?_) λ c4=> ?_
 ·refine .skip<| .seq<| .block<| .seq ?_
  obtain ⟨j,rfl⟩:∃ j,kk=j+1:=⟨kk-1,by omega⟩
  refine .weaken [(7,_),(11,_),(12,_),(13,(.int .i64 j)),(68,_)] ⟨rfl,rfl,rfl,If some (If (Value.int .i64) (by omega)),rfl,trivial⟩ ?_
  rw [Qy] at ht
  obtain ⟨p,hp⟩:∃ p,ps[j]? =some p:=⟨_,py (by omega)⟩
  have hp2:p.2=lvl c j:=by
   have h1:(ps.map Prod.snd)[j]? =some p.2:=by rw [PX,hp]<;>rfl
   rw [hps,ym c (by omega:j<15)] at h1;exact (Qz h1).symm
  have htp:t<=p.2.length:=by rw [hp2];exact ht
  have hX:((p.2).take t).drop 0=(lvl c j).take t:=by rw [hp2]<;>rfl
  have hlv:=gJ c j
  have hll:=dA c
  have hXl:(((p.2).take t).drop 0).length=t:=by simp;omega
  refine .U rfl<| .seq<| .h<| .ix 2 (s21.ah 1 rfl) rfl<| .le 0 (s21.ah 1 rfl) hp rfl<| .a 1 rfl (.aV (E:=b9) (a:=0) (c:=t) pI rfl (s21.bt 2 rfl hp) rfl ⟨_,rfl⟩ (by omega) (htp))<| .ln 0 (((s21.bt 2 rfl hp)).sub (a:=0) (b:=t) (by omega) (htp)) rfl<| .Z rfl<| .block<| .lq [7,11,13,77,78] rfl (α:=Nat×Nat×List Nat) (λ (q,pk,cur)=>[(14,(.int .i64 pk)),(79,(.int .i64 q))]) (λ (q,pk,cur) w'=>Sat w (s21.U [(0,cL v1 3 (aa .i64) (cur))]) w'/\(q<=(((p.2).take t).drop 0).length)/\(cur=bS ls ((((p.2).take t).drop 0).take q))/\(pk=iY ((((p.2).take t).drop 0).take q))/\(cur.length=c.length)/\(∀ x∈cur,x<=(15-(j+1))*4096+q)/\(pk<=q)) (λ (q,pk,cur)=>(((p.2).take t).drop 0).length-q) (0,0,ls) ⟨s21,KD _,rfl,rfl,hls,λ x hx=>by have:=hB x hx;omega,KB _⟩ ?_
  rintro ⟨q,pk,cur⟩ w14 ⟨s22,hq,hcur,hpk,hcl,hB2,hpq⟩
  refine .Z rfl<| .seq<| .ae rfl (λ c5=> ?_) λ c5=> ?_
  ·refine .skip<| .seq<| .block<| .seq ?_
   obtain ⟨x,hx⟩:∃ x,(((p.2).take t).drop 0)[q]? =some x:=⟨_,py (c5)⟩
   have hxm:x∈lvl c j:=by have h:=a7 hx;rw [hX] at h;exact Q8 h
   have hsym:=Jy c j x hxm
   have hql:=c5
   refine .region<| .ix 0 (((s22.bt 2 rfl hp)).sub (a:=0) (b:=t) (by omega) (htp)) rfl<| .lg 0 (((s22.bt 2 rfl hp)).sub (a:=0) (b:=t) (by omega) (htp)) hx rfl<| .al 0 s22 rfl λ b2 _ s23 _ _=> .sa 0 s23 3 rfl ((b9).one _) λ w16 s24 _=> .nil<| .h<| .ld 1 s24 3 rfl<| .e rfl (.geq rfl rfl)<| .nil<| .ae rfl (λ c6=> ?_) λ c6=> ?_
   ·obtain ⟨n,hxs,hnc⟩:∃ n:Nat,x.sym=((n:Nat):Int)/\n<c.length:=by rcases hsym with h|⟨n,h⟩;(omega);exact ⟨n,h⟩
    have s25:Sat w [cL v1 3 (aa .i64) (cur),cL ov 285 (ck It) (ps),bh 288 b9 (ps),aq b2 288 [(.int .i64 x.w),(.int .i64 n),(.int .i64 x.lf),(.int .i64 x.rt)]] w16:=by have hq:=s24;(try dsimp only [b9] at hq);rw [hxs] at hq;exact hq
    obtain ⟨y,hy⟩:∃ y,cur[n]? =some y:=⟨_,py (by omega)⟩
    have hyB:=hB2 y (a7 hy)
    refine .region<| .ld 2 s25 3 rfl<| .ix 0 (s25.ah 0 rfl) rfl<| .le 0 (s25.ah 0 rfl) hy rfl<| .ix 1 (s25.ah 0 rfl) rfl<| .f rfl (.cH (a:=(y+1)) 0 cQ s25 rfl rfl rfl rfl (by (try simp only [PJ]);omega) λ _ s26 _=> ?_)
    have s26:=s26.nn
    refine .nil<| .U rfl ?_
    have s28:=(s26.pk [0,1,2]).aZ 0 rfl (show cur.set n (y+1)=bS ls ((((p.2).take t).drop 0).take (q+1)) from by rw [ak hx,jm,<-hcur,bump,PI (by omega),show x.sym.toNat=n by omega,getD_some hy])
    exact aT (q+1,pk,bS ls ((((p.2).take t).drop 0).take (q+1))) ⟨s28,by omega,rfl,by rw [ak hx,yo,<-hpk];simp [show ¬ x.sym<0 by omega],by rw [bZ];omega,by rw [ak hx,jm,<-hcur];exact BP hB2 x,by omega⟩
   refine .U rfl<| .U rfl ?_
   have s30:=(s24.pk [0,1,2]).aZ 0 rfl (show cur=bS ls ((((p.2).take t).drop 0).take (q+1)) from by rw [ak hx,jm,<-hcur,bump,M2 (by omega)])
   exact aT (q+1,(pk+1),bS ls ((((p.2).take t).drop 0).take (q+1))) ⟨s30,by omega,rfl,by rw [ak hx,yo,<-hpk];simp [show x.sym<0 by omega],by rw [bZ];omega,by rw [ak hx,jm,<-hcur];exact BP hB2 x,by omega⟩
  refine .ao ?_
  have hqt:q=t:=by omega
  have hXq:(((p.2).take t).drop 0).take q=(lvl c j).take t:=by rw [hqt,hX,PV (by simp;omega)]
  rw [hXq] at hcur hpk
  have hnd:down c j (2*pk) cur=ca c:=by rw [hpk,hcur,<-hdn,down]
  have hnt:2*pk<=(lvl c (j-1)).length:=by
   cases j with
   |zero=>have h1:=Ax (lvl c 0) t;have h2:iY (lvl c 0)=0:=mw c;omega
   |succ i=>rw [Qy,hpk];exact oK c i t
  have hnB:∀ x∈cur,x<=(15-j)*4096:=λ x hx=>by have:=hB2 x hx;omega
  refine .U rfl<| .region<| .a 1 rfl (.sub (b:=(1:Int)) rfl rfl (by unfold aY;omega))<| .Z rfl ?_
  exact ⟨(j,(2*pk),cur),(wk rfl),⟨s22,by omega,hnt,hnd,by omega,hnB⟩,(show ((j))<(j+1) from by omega)⟩
 refine .ao<| .Z rfl<| .cj rfl rfl rfl ?_
 have hk0:kk=0:=by omega
 subst hk0
 have s32:=(s21.pk [0]).aZ 0 rfl (show ls=ca c from by rw [<-hdn]<;>rfl)
 exact ⟨_,rfl,s32⟩
theorem zG (v u:Value) (l syms:List Nat) (w:World) (hv:RdL w v (aa .i64) l) (hu:RdL w u (aa .i64) syms) (hn:l.length<=8) (hval:eC l=true) (hsn:syms.length<=4096) (hsy:∀ s∈syms,s<l.length/\0<aE l s):
  CallsV prog 189 [v,u] w λ r w'=>∃ v',r= .tuple #[v',.int .i64 ((db l syms).length:Int),.int .i64 0]/\Sat w [cL v' 5 (aa .u8) (aH (db l syms))] w':=by
 refine cg func189 rfl λ hs0=> .seq ?_
 have hgl:=GoodLens.sH hval
 refine .U rfl<| .seq<| .block<| .h<| .cp 1 hs0 (En _ (l) _ (hv.ext hs0.ext) (hn)) rfl λ _ s1=> .e rfl (.cO rfl)<| .Z rfl<| .aj rfl (by rw [hval]<;>rfl)<| .h<| .ln 1 (hu.ext s1.ext) rfl<| .Z rfl<| .aj rfl (IN (by omega))<| .skip<| .h<| .c 1 (zE _ (l) _ (hv.ext s1.ext) (hn) (ud hval)) rfl λ r2 _ h2=> ?_
 have s2:=s1.az h2
 refine .Z rfl<| .h<| .c 0 (j6 _) rfl λ r3 _ h3=> ?_
 obtain ⟨b1,rfl,p3⟩:=h3
 have s3:=(s2.az p3).nn
 refine .Z rfl<| .h<| .a 1 rfl (.gw rfl)<| .Z rfl<| .seq<| .h<| .ln 1 (hu.ext s3.ext) rfl<| .Z rfl<| .block<| .lq [0,7,8,9,25,26] rfl (α:=Nat×Value×List Bool) (λ (k,wv,bits)=>[(27,(.int .i64 k))]) (λ (k,wv,bits) w'=>Sat w (s3.U [(1,aq b1 256 [wv,(.int .i64 ((bits).length:Nat))]),(2,cL wv 5 (aa .u8) (aH (bits)))]) w'/\(k<=syms.length)/\(bits=db l (syms.take k))/\(bits.length<=15*k)) (λ (k,wv,bits)=>syms.length-k) (0,(.slice none 0 0),[]) ⟨s3,KD _,rfl,KB _⟩ ?_
 rintro ⟨k,wv,bits⟩ w4 ⟨s4,hk,hbits,hbl⟩
 refine .Z rfl<| .seq<| .ae rfl (λ c1=> ?_) λ c1=> ?_
 ·refine .skip<| .seq<| .block<| .seq ?_
  obtain ⟨x,hx⟩:∃ x,(syms)[k]? =some x:=⟨_,py c1⟩
  refine .region<| .ix 0 (hu.ext s4.ext) rfl<| .le 0 (hu.ext s4.ext) hx rfl<| .Z rfl<| .seq<| .seq ?_
  have hx0:=hsy x (a7 hx)
  have hlx:=pE hx0.1
  have hcdx:=(qj hgl hx0.2).2
  have hl15:=hgl.le x
  have hcl:=lD l
  refine .bN 45 (((x<0)\/(l.length<=x))\/((aE l x)=0)) ?_ ?_
  ·refine .z 3 rfl<| .B 33 rfl (λ g1=> ?_) λ g1=> ?_
   ·refine .M rfl (by simp [g1])
   refine .ln 2 (hv.ext s4.ext) rfl<| .z 3 rfl<| .B 39 rfl (λ g2=> ?_) λ g2=> ?_
   ·refine .M rfl (by simp [g1,g2])
   refine .ix 2 (hv.ext s4.ext) rfl<| .le 0 (hv.ext s4.ext) hlx rfl<| .M rfl (by simp [g1,g2])
  refine .aj rfl (IN (by omega))<| .skip ?_
  have hshp1:=(s4.ah (E:=aa .u8) 2 rfl).iH (by decide)
  refine .dk [0] s4 rfl (pl [0,1,2,3,4,5,6,7,8,1009] .fin) λ s5 S1=> .ix 3 S1 (·.ah 0 rfl) rfl<| .le 0 S1 (·.ah 0 rfl) (qj hgl hx0.2).1 rfl<| .ix 2 S1 (hv.ext ·.ext) rfl<| .le 0 S1 (hv.ext ·.ext) hlx rfl ?_
  have A1:=s5.tail.oc [1,2,0] 2
  refine .f rfl (.uH MB rfl rfl ((wY _ _ _ _ _ (bits) ((mA l x)) ((aE l x)) A1 (hcdx) (by omega) (by omega)).mono λ r4 _ h4=> ?_))
  obtain ⟨rfl,wv1,p4⟩:=h4
  have s6:=(Sat.order [2,0,1] (by decide) p4.join).aI.nn
  have S2:=s6.pk [0]
  refine ⟨S2,?_⟩
  refine .fin<| .U rfl ?_
  exact aT (k+1,wv1,bits++aX ((mA l x)) ((aE l x))) ⟨s6,by omega,by rw [ak hx,uc,hbits],by simp only [sp,aF];omega⟩
 refine .ao<| .h<| .c 1 (o9 _ _ (aH (bits)) _ (s4.cell (i:=1) (j:=0) rfl rfl) (s4.ah 2 rfl) (by rw [bc];omega)) rfl λ r5 _ h5=> ?_
 have s7:=s4.az h5
 refine .cp 1 s7 (uP _ ((bits).length) _ (s7.cell (i:=1) (j:=1) rfl rfl)) rfl λ _ s8=> .Z rfl<| .ret ?_
 show aL _ _ _ _ _ _
 refine ie rfl rfl rfl rfl ?_
 have hkl:bits=db l syms:=by rw [hbits,show k=syms.length by omega,PW]
 subst hkl
 exact ⟨_,rfl,s8.pk [3]⟩
theorem CK (v:Value) (l:List Nat) (w:World) (hv:RdL w v (aa .i64) l) (hn:l.length<=4096) (hb:∀ x∈l,x<8):
  CallsV prog 126 [v] w λ r w'=>∃ g lv bv ps,r= .pointer (some ⟨g,0,none⟩)/\bB ps=jK l (dq l.length)/\Sat w [aq g 245 [(.int .i64 l.length),(.int .i64 (0:Nat)),lv,bv,(.int .i64 (0:Nat)),(.slice none 0 0)],cL lv 3 (aa .i64) ([]),cL bv 248 (df) (ps),cG (ps),cL (Value.slice none 0 0) 3 (aa .i64) ([])] w':=by
 refine cg func126 rfl λ hs0=> .Z rfl<| .h<| .ln 1 (hv.ext hs0.ext) rfl<| .e rfl (.build Hh rfl ⟨rfl,rfl,trivial⟩ rfl)<| .bx 0 hs0 rfl λ b1 _ s1 _ _=> .Z rfl<| .seq<| .seq ?_
 have s2:=s1.aA 3 (aa .i64)
 have s3:Sat w [_,_,cL (Value.slice none 0 0) 248 (df) ([])] _:=s2.aA 248 df
 have s4:Sat w [aq b1 245 [(.int .i64 l.length),(.int .i64 (0:Nat)),(.slice none 0 0),(.slice none 0 0),(.int .i64 (0:Nat)),(.slice none 0 0)],cL (Value.slice none 0 0) 3 (aa .i64) ([]),cL (Value.slice none 0 0) 248 (df) ([]),cG ([])] _:=s3.yY
 have s5:=s4.aA 3 (aa .i64)
 refine .U rfl<| .block<| .lq [0,3] rfl (α:=Nat×Value×List Pt) (λ (k,bv,ps)=>[(4,(.int .i64 ((64*k):Nat)))]) (λ (k,bv,ps) w'=>Sat w (s5.U [(0,aq b1 245 [(.int .i64 l.length),(.int .i64 (0:Nat)),(.slice none 0 0),bv,(.int .i64 (0:Nat)),(.slice none 0 0)]),(2,cL bv 248 (df) (ps)),(3,cG (ps))]) w'/\(64*k<=l.length+63)/\(bB ps=jK l k)) (λ (k,bv,ps)=>l.length+64-64*k) (0,(.slice none 0 0),[]) ⟨s5,by omega,rfl⟩ ?_
 rintro ⟨k,bv,ps⟩ w2 ⟨s6,hk,hps⟩
 have hpl:ps.length=k:=by rw [<-dX,hps];simp [jK]
 refine .seq<| .h<| .ln 2 (hv.ext s6.ext) rfl<| .Z rfl<| .ae rfl (λ c1=> ?_) λ c1=> ?_
 ·refine .skip<| .seq<| .block<| .h<| .ln 5 (hv.ext s6.ext) rfl<| .e rfl (.Kg rfl rfl)<| .e rfl (.aV (E:=aa .i64) (a:=(64*k)) (c:=(min ((64*k)+64) l.length)) aQ rfl (hv.ext s6.ext) ⟨_,rfl⟩ ⟨_,rfl⟩ (by omega) (by omega))<| .c 0 (AV _ (((l).take (min ((64*k)+64) l.length)).drop (64*k)) _ (((hv.ext s6.ext)).sub (a:=(64*k)) (b:=(min ((64*k)+64) l.length)) (by omega) (by omega)) (by rw [mB,cM];omega) (λ x hx=>by rw [mB] at hx;have:=hb x (l8 hx);omega)) rfl λ r1 _ h_1=> ?_
  obtain ⟨pv1,rfl,p1⟩:=h_1
  have s7:=s6.az p1
  obtain ⟨sv1,hsv1,hsv1n⟩:=(s7.ah 5 rfl).sv
  subst hsv1
  refine .Z rfl<| .region<| .ld 4 s7 0 rfl<| .a 1 rfl (.build KZ rfl ⟨rfl,trivial⟩ rfl)<| .f rfl (.cn (df) (⟨sv1,0,bD (((l).take (min ((64*k)+64) l.length)).drop (64*k))⟩:Pt) Hg (by decide) (by decide) s7 rfl λ v1 _ s8 _=> ?_)
  have s8:=s8.nn
  refine .ap 0 s8 2 (s8.ah 6 rfl) rfl λ v2 _ s9 _=> ?_
  have s9:=s9.pk [0,1,2,3,4,5]
  refine .st 2 s9 0 rfl (h1:=(s9.ah 2 rfl).ab) λ w6 s10 _=> .nil<| .U rfl ?_
  have s11:Sat w [aq b1 245 [(.int .i64 l.length),(.int .i64 (0:Nat)),(.slice none 0 0),v2,(.int .i64 (0:Nat)),(.slice none 0 0)],cL (Value.slice none 0 0) 3 (aa .i64) ([]),cL v2 248 (df) (ps++[(⟨sv1,0,bD (((l).take (min ((64*k)+64) l.length)).drop (64*k))⟩:Pt)]),cG (ps++[(⟨sv1,0,bD (((l).take (min ((64*k)+64) l.length)).drop (64*k))⟩:Pt)]),cL (Value.slice none 0 0) 3 (aa .i64) ([])] w6:=Sat.uF (A:=[aq b1 245 [(.int .i64 l.length),(.int .i64 (0:Nat)),(.slice none 0 0),v2,(.int .i64 (0:Nat)),(.slice none 0 0)],cL (Value.slice none 0 0) 3 (aa .i64) ([]),cL v2 248 (df) (ps++[(⟨sv1,0,bD (((l).take (min ((64*k)+64) l.length)).drop (64*k))⟩:Pt)]),cG (ps),cL (Value.slice none 0 0) 3 (aa .i64) ([])]) s10 3 rfl
  exact aT (k+1,v2,ps++[(⟨sv1,0,bD (((l).take (min ((64*k)+64) l.length)).drop (64*k))⟩:Pt)]) ⟨s11,by omega,by rw [rT,hps,Gr,<-mB]⟩
 refine .ao<| .Z rfl<| .aC rfl rfl ?_
 have hkn:k=dq l.length:=by unfold dq;omega
 exact ⟨_,_,_,ps,rfl,by rw [hps,hkn],s6.pk [0,1,2,3,4]⟩
theorem Ep (v:Value) (l:List Nat) (w:World) (hv:RdL w v (aa .i64) l) (hn:l.length<=4096) (hb:∀ x∈l,x<8):
  CallsV prog 127 [v] w λ r w'=>∃ g lv bv ps,r= .pointer (some ⟨g,0,none⟩)/\bB ps=oN l (dq l.length)/\Sat w [aq g 245 [(.int .i64 l.length),(.int .i64 (1:Nat)),lv,bv,(.int .i64 (0:Nat)),(.slice none 0 0)],cL lv 3 (aa .i64) (bA l),cL bv 248 (df) (ps),cG (ps),cL (Value.slice none 0 0) 3 (aa .i64) ([])] w':=by
 refine cg func127 rfl λ hs0=> .Z rfl<| .Z rfl<| .seq<| .h<| .ln 1 (hv.ext hs0.ext) rfl<| .Z rfl<| .block<| .lq [0,14,15] rfl (α:=Nat×Nat) (λ (k,m)=>[(3,(.int .i64 m)),(16,(.int .i64 k))]) (λ (k,m) w'=>Sat w [] w'/\(k<=l.length)/\(m=lz (l.take k))/\(m<=1024)) (λ (k,m)=>l.length-k) (0,0) ⟨hs0,KD _,rfl,KD _⟩ ?_
 rintro ⟨k,m⟩ w1 ⟨s1,hk,hm,hmb⟩
 refine .Z rfl<| .seq<| .ae rfl (λ c1=> ?_) λ c1=> ?_
 ·refine .skip<| .seq<| .block<| .seq ?_
  obtain ⟨x,hx⟩:∃ x,(l)[k]? =some x:=⟨_,py c1⟩
  refine .region<| .ix 0 (hv.ext s1.ext) rfl<| .le 0 (hv.ext s1.ext) hx rfl<| .Z rfl ?_
  have hxb:=hb x (a7 hx)
  refine .region<| .a 3 rfl (.MR rfl rfl)<| .Z rfl<| .U rfl ?_
  exact aT (k+1,(max m (x+1))) ⟨s1,by omega,by rw [ak hx,yx,hm],by have:=hb x (a7 hx);omega⟩
 refine .ao<| .seq ?_
 have hmm:m=lz l:=by rw [hm,show k=l.length by omega,PW]
 have hmx8:lz l<=8:=Gs hb
 have hmx:lz l<=1024:=by omega
 refine .region<| .b 1 rfl (.cP (aa .i64) (0) aQ rfl s1 rfl rfl (by omega) (by omega) (by omega) λ v1 _ s2 _=> ?_)
 refine .Z rfl<| .seq<| .h<| .ln 1 (hv.ext s2.ext) rfl<| .Z rfl<| .block<| .lq [0,6,27,28] rfl (α:=Nat×List Nat) (λ (k,cur)=>[(29,(.int .i64 k))]) (λ (k,cur) w'=>Sat w [cL v1 3 (aa .i64) (cur)] w'/\(k<=l.length)/\(cur=js (lz l) (l.take k))/\(cur.length=lz l)/\(∀ x∈cur,x<=k)) (λ (k,cur)=>l.length-k) (0,List.replicate (m) 0) ⟨s2,KD _,by rw [hmm]<;>rfl,by rw [hmm];simp,λ x hx=>by have:=Rj hx;omega⟩ ?_
 rintro ⟨k,cur⟩ w3 ⟨s3,hk,hcur,hcl,hcb⟩
 refine .Z rfl<| .seq<| .ae rfl (λ c2=> ?_) λ c2=> ?_
 ·refine .skip<| .seq<| .block<| .seq ?_
  obtain ⟨x,hx⟩:∃ x,(l)[k]? =some x:=⟨_,py c2⟩
  refine .region<| .ix 0 (hv.ext s3.ext) rfl<| .le 0 (hv.ext s3.ext) hx rfl<| .Z rfl ?_
  have hxm:x<cur.length:=by rw [hcl];exact vT l x (a7 hx)
  obtain ⟨y,hy⟩:∃ y,(cur)[x]? =some y:=⟨_,py (hxm)⟩
  have hyk:=hcb y (a7 hy)
  refine .region<| .ix 2 (s3.ah 0 rfl) rfl<| .le 0 (s3.ah 0 rfl) hy rfl<| .ix 1 (s3.ah 0 rfl) rfl<| .f rfl (.cH (a:=(y+1)) 0 cQ s3 rfl rfl rfl rfl (by (try simp only [PJ]);omega) λ _ s4 _=> ?_)
  refine .nil<| .U rfl ?_
  exact aT (k+1,cur.set x (y+1)) ⟨s4,by omega,by rw [ak hx,ue,<-hcur,dx,getD_some hy],by simp only [PJ];exact hcl,λ z hz=>by
    rcases R2 hz with hz|rfl
    ·have:=hcb z hz;omega
    ·omega⟩
 refine .ao<| .seq ?_
 have s5:=s3.aZ 0 rfl (show cur=js (lz l) l from by rw [hcur,show k=l.length by omega,PW])
 refine .region<| .ln 1 (hv.ext s5.ext) rfl<| .e rfl (.build Hh rfl ⟨rfl,rfl,trivial⟩ rfl)<| .bx 0 s5 rfl λ b1 _ s6 _ _=> ?_
 have s6:=s6.nn
 refine .Z rfl<| .h<| .c 2 (zF _ (js (lz l) l) _ (s6.ah 0 rfl) (by rw [fD];exact hmx8) (λ x hx=>by have:=BT (lz l) l x hx;omega)) rfl λ r1 _ h_1=> ?_
 obtain ⟨lv1,rfl,p1⟩:=h_1
 have s7:=s6.az p1
 refine .st 5 s7 1 rfl (h1:=(s7.ah 2 rfl).ab) λ _ s8 _=> .nil<| .seq<| .seq ?_
 have s10:=(s8.pk [1,2]).aZ 1 rfl (show ca (js (lz l) l)=bA l from rfl)
 have s11:Sat w [aq b1 245 [(.int .i64 l.length),(.int .i64 (1:Nat)),lv1,(.slice none 0 0),(.int .i64 (0:Nat)),(.slice none 0 0)],cL lv1 3 (aa .i64) (bA l),cL (Value.slice none 0 0) 248 (df) ([])] _:=s10.aA 248 df
 have s12:Sat w [aq b1 245 [(.int .i64 l.length),(.int .i64 (1:Nat)),lv1,(.slice none 0 0),(.int .i64 (0:Nat)),(.slice none 0 0)],cL lv1 3 (aa .i64) (bA l),cL (Value.slice none 0 0) 248 (df) ([]),cG ([])] _:=s11.yY
 have s13:=s12.aA 3 (aa .i64)
 refine .U rfl<| .block<| .lq [0,9] rfl (α:=Nat×Value×List Pt) (λ (k,bv,ps)=>[(10,(.int .i64 ((64*k):Nat)))]) (λ (k,bv,ps) w'=>Sat w (s13.U [(0,aq b1 245 [(.int .i64 l.length),(.int .i64 (1:Nat)),lv1,bv,(.int .i64 (0:Nat)),(.slice none 0 0)]),(2,cL bv 248 (df) (ps)),(3,cG (ps))]) w'/\(64*k<=l.length+63)/\(bB ps=oN l k)) (λ (k,bv,ps)=>l.length+64-64*k) (0,(.slice none 0 0),[]) ⟨s13,by omega,rfl⟩ ?_
 rintro ⟨k,bv,ps⟩ w8 ⟨s14,hk,hps⟩
 have hpl:ps.length=k:=by rw [<-dX,hps];simp [oN]
 refine .seq<| .h<| .ln 2 (hv.ext s14.ext) rfl<| .Z rfl<| .ae rfl (λ c3=> ?_) λ c3=> ?_
 ·refine .skip<| .seq<| .block<| .seq<| .dk [0,1,2,3,4] s14 rfl (pl [0,1,2,3,4,5,6,7,8,9,10,11,1012,13,14,15,16,17,18,19] .fin) λ s15 S1=> .ld 3 S1 0 rfl<| .ln 5 S1 (hv.ext ·.ext) rfl<| .e rfl (λ _ s=> .Kg rfl rfl) S1<| .e rfl (λ _ s=> .aV (E:=aa .i64) (a:=(64*k)) (c:=(min ((64*k)+64) l.length)) aQ rfl (hv.ext s.ext) ⟨_,rfl⟩ ⟨_,rfl⟩ (by omega) (by omega)) S1<| .c 0 S1 (zG _ _ (bA l) (((l).take (min ((64*k)+64) l.length)).drop (64*k)) _ (s15.ah 1 rfl) (((hv.ext s15.ext)).sub (a:=(64*k)) (b:=(min ((64*k)+64) l.length)) (by omega) (by omega)) (by rw [dr];exact hmx8) (oM (l9 l hmx)) (by rw [mB,cM];omega) (λ x hx=>yy hmx x (by rw [mB] at hx;exact l8 hx))) rfl λ r2 _ h2=> ?_
  obtain ⟨hv1,rfl,p2⟩:=h2
  have s16:=s15.az p2
  obtain ⟨sv1,hsv1,hsv1n⟩:=(s16.ah 5 rfl).sv
  subst hsv1
  have S2:=s16.pk [0,1,2,3,4]
  refine ⟨S2,?_⟩
  refine .Z S2 rfl<| .region<| .ld 4 s16 0 rfl<| .a 2 rfl (.build KZ rfl ⟨rfl,rfl,trivial⟩ rfl)<| .f rfl (.cn (df) (⟨sv1,(db (bA l) (((l).take (min ((64*k)+64) l.length)).drop (64*k))).length,aH (db (bA l) (((l).take (min ((64*k)+64) l.length)).drop (64*k)))⟩:Pt) Hg (by decide) (by decide) s16 rfl λ v2 _ s17 _=> ?_)
  have s17:=s17.nn
  refine .ap 0 s17 2 (s17.ah 6 rfl) rfl λ v3 _ s18 _=> ?_
  have s18:=s18.pk [0,1,2,3,4,5]
  refine .st 2 s18 0 rfl (h1:=(s18.ah 2 rfl).ab) λ w12 s19 _=> .nil<| .U rfl ?_
  have s20:Sat w [aq b1 245 [(.int .i64 l.length),(.int .i64 (1:Nat)),lv1,v3,(.int .i64 (0:Nat)),(.slice none 0 0)],cL lv1 3 (aa .i64) (bA l),cL v3 248 (df) (ps++[(⟨sv1,(db (bA l) (((l).take (min ((64*k)+64) l.length)).drop (64*k))).length,aH (db (bA l) (((l).take (min ((64*k)+64) l.length)).drop (64*k)))⟩:Pt)]),cG (ps++[(⟨sv1,(db (bA l) (((l).take (min ((64*k)+64) l.length)).drop (64*k))).length,aH (db (bA l) (((l).take (min ((64*k)+64) l.length)).drop (64*k)))⟩:Pt)]),cL (Value.slice none 0 0) 3 (aa .i64) ([])] w12:=Sat.uF (A:=[aq b1 245 [(.int .i64 l.length),(.int .i64 (1:Nat)),lv1,v3,(.int .i64 (0:Nat)),(.slice none 0 0)],cL lv1 3 (aa .i64) (bA l),cL v3 248 (df) (ps++[(⟨sv1,(db (bA l) (((l).take (min ((64*k)+64) l.length)).drop (64*k))).length,aH (db (bA l) (((l).take (min ((64*k)+64) l.length)).drop (64*k)))⟩:Pt)]),cG (ps),cL (Value.slice none 0 0) 3 (aa .i64) ([])]) s19 3 rfl
  exact aT (k+1,v3,ps++[(⟨sv1,(db (bA l) (((l).take (min ((64*k)+64) l.length)).drop (64*k))).length,aH (db (bA l) (((l).take (min ((64*k)+64) l.length)).drop (64*k)))⟩:Pt)]) ⟨s20,by omega,by rw [rT,hps,Gv,<-mB]⟩
 refine .ao<| .Z rfl<| .aC rfl rfl ?_
 have hkn:k=dq l.length:=by unfold dq;omega
 exact ⟨_,_,_,ps,rfl,by rw [hps,hkn],s14.pk [0,1,2,3,4]⟩
theorem lJ (g n kind:Nat) (lv bv:Value) (lens:List Nat) (ps:List Pt) (w:World) (h0:w.cell? ⟨g,0,none⟩=some (.int .i64 (n:Int))) (h1:w.cell? ⟨g,1,none⟩=some (.int .i64 (kind:Int))) (h2:w.cell? ⟨g,2,none⟩=some lv) (h3:w.cell? ⟨g,3,none⟩=some bv) (hl:RdL w lv (aa .i64) lens) (hb:RdL w bv df ps) (hall:∀ p∈ps,RdL w p.sv.val (aa .u8) p.bys) (hn:n<=4096) (hk:kind<=1) (hll:lens.length<=1024) (hpl:ps.length<=100) (hpb:∀ p∈ps,p.bys.length<=20000/\p.bits<=1000000):
  CallsV prog 128 [(.pointer (some ⟨g,0,none⟩))] w λ r w'=>Sat w [cL r 5 (aa .u8) (jL n kind lens (bB ps))] w':=by
 refine cg func128 rfl λ hs0=> .Z rfl<| .seq ?_
 have hu1:=aD n
 have hu2:=aD kind
 have hu3:=aD lens.length
 have hhd:=ju n kind lens
 refine .region<| .a 3 rfl (.load gO rfl (hs0.ext _ _ h0))<| .c 1 (dj (Value.slice none 0 0) ([]) (n) _ (RdL.nil _ _) (by simp) (by omega)) rfl λ r1 _ h_1=> ?_
 have s1:=hs0.az h_1
 refine .Z rfl<| .h<| .a 4 rfl (.load gO rfl (s1.ext _ _ h1))<| .c 1 (dj r1 (uv (n)) (kind) _ (s1.ah 0 rfl) (by omega) (by omega)) rfl λ r2 _ h_2=> ?_
 have s2:=s1.az h_2
 refine .Z rfl<| .jn [0] rfl (λ K L' w'=>∃ (ov:Value),Weak ([(3,ov)]++K) L'/\Sat w [cL ov 5 (aa .u8) (jt n kind lens)] w') ?_ ?_
 ·refine .h<| .a 3 rfl (.load gO rfl (s2.ext _ _ h1))<| .Z rfl<| .ae rfl (λ c1=> ?_) λ c1=> ?_
  ·refine .h<| .a 4 rfl (.load oT rfl (s2.ext _ _ h2))<| .ln 0 (hl.ext s2.ext) rfl<| .c 1 (dj r2 (uv (n)++uv (kind)) (lens.length) _ (s2.ah 1 rfl) (by simp only [sp];omega) (by omega)) rfl λ r3 _ h_3=> ?_
   have s3:=(s2.az h_3).nn
   refine .Z rfl<| .h<| .a 3 rfl (.load oT rfl (s3.ext _ _ h2))<| .ln 0 (hl.ext s3.ext) rfl<| .Z rfl<| .block ?_
   have s5:=(s3.pk [2]).aZ 0 rfl (show uv (n)++uv (kind)++uv (lens.length)=uv n++uv kind++uv lens.length++(lens.take (0)).map (· %2^8) from by simp)
   refine .lq [0,37,38] rfl (α:=Nat×Value) (λ (k,ov)=>[(3,ov),(39,(.int .i64 k))]) (λ (k,ov) w'=>Sat w [cL ov 5 (aa .u8) (uv n++uv kind++uv lens.length++(lens.take (k)).map (· %2^8))] w'/\(k<=lens.length)) (λ (k,ov)=>lens.length-k) (0,r3) ⟨s5,KD _⟩ ?_
   rintro ⟨k,ov⟩ w4 ⟨s6,hkl⟩
   refine .Z rfl<| .seq<| .ae rfl (λ c2=> ?_) λ c2=> ?_
   ·refine .skip<| .seq<| .block<| .seq ?_
    obtain ⟨x,hx⟩:∃ x,(lens)[k]? =some x:=⟨_,py c2⟩
    refine .region<| .ix 0 (hl.ext s6.ext) rfl<| .le 0 (hl.ext s6.ext) hx rfl<| .Z rfl<| .region<| .a 2 rfl (.gR (by rw [underlying3]<;>rfl) underlying5 rfl rfl)<| .f rfl (.bU (aa .u8) (x%2^8) ch rfl s6 rfl λ v1 _ s7 _=> ?_)
    refine .ap 0 s7 0 (s7.ah 1 rfl) rfl (h1:=by simp only [sp,No,KV,KP,KY];omega) (h2:=by simp only [sp,No,KV,KP,KY];omega) λ v2 _ s8 _=> ?_
    refine .Z rfl<| .U rfl ?_
    have s9:=(s8.pk [0]).pk [0]
    have s10:=s9.aZ 0 rfl (show uv n++uv kind++uv lens.length++(lens.take (k)).map (· %2^8)++[(x%2^8)]=uv n++uv kind++uv lens.length++(lens.take (k+1)).map (· %2^8) from by rw [ak hx];simp)
    exact aT (k+1,v2) ⟨s10,by omega⟩
   refine .ao ?_
   have s12:=(s6.pk [0]).aZ 0 rfl (show uv n++uv kind++uv lens.length++(lens.take (k)).map (· %2^8)=jt n kind lens from by rw [jt,PI (c1),show k=lens.length by omega,PW];simp)
   exact ⟨ov,(wk rfl),s12⟩
  refine .skip ?_
  have s14:=(s2.pk [1]).aZ 0 rfl (show uv (n)++uv (kind)=jt n kind lens from by rw [jt,M2 c1];simp)
  exact ⟨r2,(wk rfl),s14⟩
 rintro L' w7 ⟨ov,hw1,s15⟩
 refine .weaken _ hw1<| .seq<| .h<| .a 3 rfl (.load JX rfl (s15.ext _ _ h3))<| .ln 0 (hb.ext s15.ext) rfl<| .Z rfl<| .block ?_
 have s16:=s15.aZ 0 rfl (show jt n kind lens=jt n kind lens++ee kind ((bB ps).take (0)) from by simp [ee])
 refine .lq [0,52,53] rfl (α:=Nat×Value) (λ (k,ov)=>[(3,ov),(54,(.int .i64 k))]) (λ (k,ov) w'=>Sat w [cL ov 5 (aa .u8) (jt n kind lens++ee kind ((bB ps).take (k)))] w'/\(k<=ps.length)/\((ee kind ((bB ps).take k)).length<=20010*k)) (λ (k,ov)=>ps.length-k) (0,ov) ⟨s16,KD _,by simp [ee]⟩ ?_
 rintro ⟨k,ov⟩ w8 ⟨s17,hkl,hpk⟩
 refine .Z rfl<| .seq<| .ae rfl (λ c3=> ?_) λ c3=> ?_
 ·refine .skip<| .seq<| .block<| .seq ?_
  obtain ⟨x,hx⟩:∃ x,(ps)[k]? =some x:=⟨_,py c3⟩
  refine .region<| .ix 0 (hb.ext s17.ext) rfl<| .lg 0 (hb.ext s17.ext) hx rfl<| .al 0 s17 rfl λ b1 _ s18 _ _=> ?_
  have s18:=s18.nn
  refine .sa 0 s18 1 rfl ((df).one _) λ _ s19 _=> .nil<| .seq<| .seq ?_
  have hxb:=hpb x (a7 hx)
  have hu5:=aD x.bys.length
  have hu6:=aD x.bits
  refine .region<| .a 3 rfl (.load gO rfl (s19.ext _ _ h1))<| .Z rfl<| .ae rfl (λ c4=> ?_) λ c4=> ?_
  ·refine .region<| .ld 2 s19 1 rfl<| .ln 0 ((hall x (a7 hx)).ext s19.ext) rfl<| .c 1 (dj ov (jt n kind lens++ee kind ((bB ps).take (k))) (x.bys.length) _ (s19.ah 0 rfl) (by simp only [sp];omega) (by omega)) rfl λ r4 _ h4=> ?_
   have s20:=s19.az h4
   refine .Z rfl<| .region<| .ld 2 s20 1 rfl<| .ap 0 s20 2 ((hall x (a7 hx)).ext s20.ext) rfl (h1:=by simp only [sp];omega) (h2:=by simp only [sp];omega) λ v3 _ s21 _=> .Z rfl<| .U rfl ?_
   have s23:=(s21.pk [2]).aZ 0 rfl (show jt n kind lens++ee kind ((bB ps).take (k))++uv (x.bys.length)++x.bys=jt n kind lens++ee kind ((bB ps).take (k+1)) from by rw [ak (j1 hx),fE,mC];simp [show kind=0 from c4])
   exact aT (k+1,v3) ⟨s23,by omega,by rw [ak (j1 hx),fE,mC];simp only [sp,PI c4];omega⟩
  refine .region<| .ld 2 s19 1 rfl<| .c 1 (dj ov (jt n kind lens++ee kind ((bB ps).take (k))) (x.bits) _ (s19.ah 0 rfl) (by simp only [sp];omega) (by omega)) rfl λ r5 _ h5=> ?_
  have s24:=s19.az h5
  refine .Z rfl<| .region<| .ld 2 s24 1 rfl<| .ap 0 s24 2 ((hall x (a7 hx)).ext s24.ext) rfl (h1:=by simp only [sp];omega) (h2:=by simp only [sp];omega) λ v_4 _ s25 _=> .Z rfl<| .U rfl ?_
  have s27:=(s25.pk [2]).aZ 0 rfl (show jt n kind lens++ee kind ((bB ps).take (k))++uv (x.bits)++x.bys=jt n kind lens++ee kind ((bB ps).take (k+1)) from by rw [ak (j1 hx),fE,mC];simp [c4])
  exact aT (k+1,v_4) ⟨s27,by omega,by rw [ak (j1 hx),fE,mC];simp only [sp,M2 c4];omega⟩
 refine .ao<| .Z rfl<| .aC rfl rfl ?_
 have s28:=s17.aZ 0 rfl (show jt n kind lens++ee kind ((bB ps).take (k))=jL n kind lens (bB ps) from by rw [jL,show k=(bB ps).length by rw [dX];omega,PW])
 exact s28
theorem xn (v:Value) (l:List Nat) (w:World) (hv:RdL w v (aa .i64) l) (hl:OkN l):
  CallsV prog 79 [v] w λ r w'=>∃ g lv bv ps,r= .tuple #[.pointer (some ⟨g,0,none⟩),.int .i64 0]/\bB ps=lA l/\Sat w [aq g 245 [(.int .i64 l.length),(.int .i64 (br l)),lv,bv,(.int .i64 (0:Nat)),(.slice none 0 0)],cL lv 3 (aa .i64) (e9 l),cL bv 248 (df) (ps),cG (ps),cL (Value.slice none 0 0) 3 (aa .i64) ([])] w':=by
 refine cg func79 rfl λ hs0=> .seq ?_
 have hlen:=hl.len
 refine .U rfl<| .seq<| .h<| .ln 1 (hv.ext hs0.ext) rfl<| .Z rfl<| .aj rfl (IN (by omega))<| .skip<| .seq<| .h<| .ln 1 (hv.ext hs0.ext) rfl<| .Z rfl<| .block<| .lq [0,11,12] rfl (α:=Nat) (λ k=>[(13,(.int .i64 k))]) (λ k w'=>Sat w [] w'/\(k<=l.length)) (λ k=>l.length-k) 0 ⟨hs0,KD _⟩ ?_
 rintro k w1 ⟨s1,hk⟩
 refine .Z rfl<| .seq<| .ae rfl (λ c1=> ?_) λ c1=> ?_
 ·refine .skip<| .seq<| .block<| .seq ?_
  obtain ⟨x,hx⟩:∃ x,(l)[k]? =some x:=⟨_,py c1⟩
  refine .region<| .ix 0 (hv.ext s1.ext) rfl<| .le 0 (hv.ext s1.ext) hx rfl<| .Z rfl<| .seq<| .bN 22 ((x<0)\/(1024<=x)) ?_ ?_
  ·refine .z 3 rfl<| .B 19 rfl (λ hg1=> ?_) λ hg1=> ?_
   ·refine .M rfl (by simp [hg1])
   refine .M rfl (by simp [hg1])
  refine .aj rfl (IN (by have:=hl.lt x (a7 hx);omega))<| .skip<| .U rfl ?_
  exact aT (k+1) ⟨s1,by omega⟩
 refine .ao<| .h<| .c 1 (CK _ (l) _ (hv.ext s1.ext) (hl.len) (hl.lt)) rfl λ r1 _ h1=> ?_
 obtain ⟨g1,lv1,bv1,ps1,rfl,hps1,p1⟩:=h1
 have s2:=s1.az p1
 refine .c 1 (Ep _ (l) _ (hv.ext s2.ext) (hl.len) (hl.lt)) rfl λ r2 _ h2=> ?_
 obtain ⟨g2,lv2,bv2,ps2,rfl,hps2,p2⟩:=h2
 have s3:=s2.az p2
 refine .Z rfl<| .seq<| .seq ?_
 have hb0:=KC hps1 hl.len
 have hb1:=KE hps2 hl.len hl.mx
 refine .region<| .c 1 (lJ g2 ((l).length) 1 lv2 bv2 (bA l) ps2 _ (s3.cell (i:=5) (j:=0) rfl rfl) (s3.cell (i:=5) (j:=1) rfl rfl) (s3.cell (i:=5) (j:=2) rfl rfl) (s3.cell (i:=5) (j:=3) rfl rfl) (s3.ah 6 rfl) (s3.ah 7 rfl) (s3.o4 8 rfl) (hl.len) (KB _) (by rw [dr];exact hl.mx) (hb1.1) (hb1.2)) rfl λ r3 _ h3=> ?_
 have s4:=(s3.az h3).nn
 refine .ln 0 (s4.ah 10 rfl) rfl<| .c 1 (lJ g1 ((l).length) 0 lv1 bv1 ([]) ps1 _ (s4.cell (i:=0) (j:=0) rfl rfl) (s4.cell (i:=0) (j:=1) rfl rfl) (s4.cell (i:=0) (j:=2) rfl rfl) (s4.cell (i:=0) (j:=3) rfl rfl) (s4.ah 1 rfl) (s4.ah 2 rfl) (s4.o4 3 rfl) (hl.len) (by omega) (by simp) (hb0.1) (hb0.2)) rfl λ r4 _ h4=> ?_
 have s5:=s4.az h4
 refine .ln 0 (s5.ah 11 rfl) rfl<| .Z rfl<| .ae rfl (λ c2=> ?_) λ c2=> ?_
 ·refine .Z rfl<| .cj rfl rfl rfl ?_
  obtain ⟨hk1,hk2,hk3⟩:=DG (l:=l) (by have hc:=c2;rw [hps1,hps2] at hc;simpa [jM] using hc)
  refine ⟨g2,lv2,bv2,ps2,rfl,by rw [hps2,hk3],?_⟩
  rw [hk1,hk2]
  exact s5.pk [5,6,7,8,9]
 refine .skip<| .Z rfl<| .cj rfl rfl rfl ?_
 obtain ⟨hk1,hk2,hk3⟩:=AB (l:=l) (by have hc:=c2;rw [hps1,hps2] at hc;simpa [jM] using hc)
 refine ⟨g1,lv1,bv1,ps1,rfl,by rw [hps1,hk3],?_⟩
 rw [hk1,hk2]
 exact s5.pk [0,1,2,3,4]
theorem Im (v n:Nat) (w:World) (hv:v<4294967296) (hn:n<=1000):
  CallsV prog 133 [(.int .u32 v),(.int .i64 n)] w λ r w'=>r= .int .u32 (cR v n:Nat)/\Sat w [] w':=by
 refine cg func133 rfl λ hs0=> .Z rfl<| .seq<| .Z rfl<| .block<| .lq [5] rfl (α:=Nat×Nat) (λ (k,u)=>[(0,(.int .u32 u)),(6,(.int .i64 k))]) (λ (k,u) w'=>Sat w [] w'/\(k<=n)/\(u=cR v k)/\(u<4294967296)) (λ (k,u)=>n-k) (0,v) ⟨hs0,KD _,rfl,hv⟩ ?_
 rintro ⟨k,u⟩ w1 ⟨s1,hk,hu,hub⟩
 refine .Z rfl<| .seq<| .ae rfl (λ c1=> ?_) λ c1=> ?_
 ·refine .skip<| .seq<| .block<| .Z rfl<| .ae rfl (λ c2=> ?_) λ c2=> ?_
  ·refine .region<| .a 2 rfl (.DY (b:=2197175160) rfl rfl rfl (by (try simp only [IntKind.bits]);omega) (by (try simp only [IntKind.bits]);omega))<| .Z rfl<| .U rfl ?_
   exact aT (k+1,((u/2^1)^^^2197175160)) ⟨s1,by omega,by rw [cR,<-hu];simp [st1,c2],by have:=rC hub;simpa [st1,c2] using this⟩
  refine .U rfl<| .U rfl ?_
  exact aT (k+1,(u/2^1)) ⟨s1,by omega,by rw [cR,<-hu];simp [st1,c2],by have:=rC hub;simpa [st1,c2] using this⟩
 refine .ao<| .Z rfl<| .aC rfl rfl ?_
 rw [show k=n by omega] at hu
 exact ⟨by rw [hu],s1⟩
theorem zH (v:Value) (l:List Nat) (w:World) (hv:RdL w v (aa .u8) l) (hb:∀ x∈l,x<256) (hn:l.length<=1000000000):
  CallsV prog 84 [v] w λ r w'=>r= .int .u32 (iz l:Nat)/\Sat w [] w':=by
 refine cg func84 rfl λ hs0=> .Z rfl<| .h<| .al 0 hs0 rfl λ b1 w1 s1 _ _=> .nil<| .seq<| .Z rfl<| .block ?_
 have s2:Sat w [aq b1 194 ((aa .u32).all (oE 0))] w1:=s1
 refine .lq [0,3] rfl (α:=Nat) (λ k=>[(8,(.int .i64 k))]) (λ k w'=>Sat w [aq b1 194 ((aa .u32).all (oE k))] w'/\(k<=16)) (λ k=>16-k) 0 ⟨s2,KD _⟩ ?_
 rintro k w2 ⟨s3,hk⟩
 refine .Z rfl<| .seq<| .ae rfl (λ c1=> ?_) λ c1=> ?_
 ·refine .skip<| .seq<| .block<| .Z rfl<| .region<| .a 2 rfl (.gR (by rw [underlying3]<;>rfl) underlying144 rfl rfl)<| .cp 0 s3 (Im ((k%2^32)) (4) _ (by omega) (by omega)) rfl λ _ s4=> .e rfl (.oY AL rfl rfl (by omega))<| .f rfl (.setArr (E:=aa .u32) (a:=(cR ((k%2^32)) (4))) 0 Mo s4 rfl rfl rfl rfl (by rw [y8];all_goals omega) λ w4 s5 _=> ?_)
  have s5:=s5.nn
  refine .nil<| .U rfl ?_
  have s6:Sat w [aq b1 194 ((aa .u32).all (oE (k+1)))] w4:=by
   have hq:(oE k).set k (cR ((k%2^32)) (4))=oE (k+1):=by rw [Q5 (show k<2^32 by omega)];exact FT (by omega)
   rw [<-hq];exact s5
  exact aT (k+1) ⟨s6,by omega⟩
 refine .ao<| .seq ?_
 have s7:Sat w [aq b1 194 ((aa .u32).all (oD))] w2:=by
  have hq:oE k=oD:=by rw [show k=16 by omega];exact FU
  rw [<-hq];exact s3
 refine .U rfl<| .seq<| .h<| .ln 1 (hv.ext s7.ext) rfl<| .Z rfl<| .block<| .lq [3,17,18] rfl (α:=Nat×Nat) (λ (k,u)=>[(5,(.int .u32 u)),(19,(.int .i64 k))]) (λ (k,u) w'=>Sat w s7.L w'/\(k<=l.length)/\(u=y7 (l.take k))/\(u<4294967296)) (λ (k,u)=>l.length-k) (0,4294967295) ⟨s7,KD _,rfl,by omega⟩ ?_
 rintro ⟨k,u⟩ w5 ⟨s8,hk,hu,hub⟩
 refine .Z rfl<| .seq<| .ae rfl (λ c2=> ?_) λ c2=> ?_
 ·refine .skip<| .seq<| .block<| .seq ?_
  obtain ⟨x,hx⟩:∃ x,(l)[k]? =some x:=⟨_,py c2⟩
  refine .region<| .ix 0 (hv.ext s8.ext) rfl<| .le 0 (hv.ext s8.ext) hx rfl<| .Z rfl<| .seq ?_
  have hxb:=hb x (a7 hx)
  have haa:u^^^x<4294967296:=iQ hub (by omega)
  refine .region<| .a 3 rfl (.DY rfl rfl rfl (by (try simp only [IntKind.bits]);omega) (by (try simp only [IntKind.bits]);omega))<| .Z rfl<| .seq ?_
  have htg1:=rE (show (u^^^x)%2^4<16 by omega)
  have htl1:=vI (show (u^^^x)%2^4<16 by omega)
  refine .region<| .a 4 rfl (.oY AL rfl rfl (by omega))<| .e rfl (.load C9 rfl (s8.qs (E:=aa .u32) 0 rfl htg1 (by decide) rfl))<| .e rfl (.DY rfl rfl rfl (by (try simp only [IntKind.bits]);omega) (by (try simp only [IntKind.bits]);omega))<| .Z rfl ?_
  have hba:=qe haa
  unfold Aq at hba
  have htg2:=rE (show (((u^^^x)/2^4)^^^(rB ((u^^^x)%2^4)))%2^4<16 by omega)
  have htl2:=vI (show (((u^^^x)/2^4)^^^(rB ((u^^^x)%2^4)))%2^4<16 by omega)
  have hbb:=qe hba
  unfold Aq at hbb
  refine .region<| .a 4 rfl (.oY AL rfl rfl (by omega))<| .e rfl (.load C9 rfl (s8.qs (E:=aa .u32) 0 rfl htg2 (by decide) rfl))<| .e rfl (.DY rfl rfl rfl (by (try simp only [IntKind.bits]);omega) (by (try simp only [IntKind.bits]);omega))<| .Z rfl<| .U rfl ?_
  exact aT (k+1,(((((u^^^x)/2^4)^^^(rB ((u^^^x)%2^4)))/2^4)^^^(rB ((((u^^^x)/2^4)^^^(rB ((u^^^x)%2^4)))%2^4)))) ⟨s8,by omega,by rw [ak hx,oC,<-hu]<;>rfl,hbb⟩
 refine .ao<| .h<| .a 1 rfl (.Lb rfl (by omega))<| .Z rfl<| .aC rfl rfl ?_
 rw [show k=l.length by omega,PW] at hu
 exact ⟨by rw [hu]<;>rfl,s8.pk []⟩
theorem j7 (v:Nat) (w:World) (hv:v<4294967296):
  CallsV prog 83 [(.int .u32 v)] w λ r w'=>r= .agg ((aa .u8).all (nz v)).toArray/\Sat w [] w':=by
 refine cg func83 rfl λ hs0=> .h<| .al 0 hs0 rfl λ b1 _ s1 _ _=> .nil<| .h<| .a 1 rfl (.gR (by rw [underlying144]<;>rfl) underlying5 rfl rfl)<| .a 2 rfl (.gR (by rw [underlying144]<;>rfl) underlying5 rfl rfl)<| .a 2 rfl (.gR (by rw [underlying144]<;>rfl) underlying5 rfl rfl)<| .a 2 rfl (.gR (by rw [underlying144]<;>rfl) underlying5 rfl rfl)<| .e rfl (.HG Mn rfl ⟨rfl,rfl,rfl,rfl,trivial⟩ rfl)<| .sa 0 s1 0 (vs:=[(.int .u8 ((v%2^8):Nat)),(.int .u8 (((v/2^8)%2^8):Nat)),(.int .u8 (((v/2^16)%2^8):Nat)),(.int .u8 (((v/2^24)%2^8):Nat))]) rfl (λ v h=>by simp only [PR,PU,Q9] at h;rcases h with rfl|rfl|rfl|rfl;exact rfl;exact rfl;exact rfl;exact rfl) λ _ s2 _=> .nil<| .ret ?_
 show aL _ _ _ _ _ _
 refine zV (vs:=[(.int .u8 ((v%2^8):Nat)),(.int .u8 (((v/2^8)%2^8):Nat)),(.int .u8 (((v/2^16)%2^8):Nat)),(.int .u8 (((v/2^24)%2^8):Nat))]) rfl rfl wB (λ j u hu=>s2.cell (i:=0) rfl hu) ?_
 exact ⟨rfl,s2.pk []⟩
theorem pS (v:Value) (l:List Nat) (w:World) (hv:RdL w v (aa .u8) l) (hb:∀ x∈l,x<256) (hn:l.length<=1000000000):
  CallsV prog 33 [v] w λ r w'=>Sat w [cL r 5 (aa .u8) (aM l)] w':=by
 refine cg func33 rfl λ hs0=> .Z rfl<| .h<| .cp 1 hs0 (zH _ (l) _ (hv.ext hs0.ext) (hb) (hn)) rfl λ _ s1=> .cp 0 s1 (j7 ((iz (l))) _ (nB hb)) rfl λ _ s2=> .al 0 s2 rfl λ b1 _ s3 _ _=> ?_
 have s3:=s3.nn
 refine .sa 0 s3 0 (vs:=(aa .u8).all (nz (iz (l)))) rfl ((aa .u8).all_oneCell _) λ _ s4 _=> .nil<| .seq<| .dk [0] s4 rfl (pl [0,1,2,3,4,5,6,1007,8] .fin) λ s5 S1=> .ln 2 S1 (hv.ext ·.ext) rfl<| .ln 1 S1 (hv.ext ·.ext) rfl<| .e rfl (λ _ s=> .DZ (E:=aa .u8) ch rfl (hv.ext s.ext) rfl rfl) S1<| .e rfl (λ _ s=> .Hv Mm (by decide) rfl) S1<| .f rfl (.AQ ch s5 rfl rfl ((hv.ext s5.ext)).full.1 (((hv.ext s5.ext)).full.2) underlying45 (s5.OC (E:=aa .u8) (l:=nz (iz (l))) 0 rfl (m:=4) (by first|rfl|simp)) (by simp [nz]) (by simp [nz];omega) (by simp [nz];omega) λ v1 _ s6 _=> ?_)
 have S2:=s6.pk [0]
 refine ⟨S2,?_⟩
 refine .Z S2 rfl<| .aC rfl rfl ?_
 exact s6.pk [1]
theorem AW (g n:Nat) (w:World) (h0:w.cell? ⟨g,0,none⟩=some (.int .i64 (n:Int))):
  CallsV prog 154 [(.pointer (some ⟨g,0,none⟩))] w λ r w'=>r= .int .i64 (n:Int)/\Sat w [] w':=by
 refine cg func154 rfl λ hs0=> .Z rfl<| .h<| .a 3 rfl (.load gO rfl (hs0.ext _ _ h0))<| .Z rfl<| .aC rfl rfl ?_
 exact ⟨rfl,hs0⟩
theorem qB (g n kind:Nat) (lv bv:Value) (lens:List Nat) (ps:List Pt) (w:World) (h0:w.cell? ⟨g,0,none⟩=some (.int .i64 (n:Int))) (h1:w.cell? ⟨g,1,none⟩=some (.int .i64 (kind:Int))) (h2:w.cell? ⟨g,2,none⟩=some lv) (h3:w.cell? ⟨g,3,none⟩=some bv) (hl:RdL w lv (aa .i64) lens) (hb:RdL w bv df ps) (hall:∀ p∈ps,RdL w p.sv.val (aa .u8) p.bys) (hn:n<=4096) (hk:kind<=1) (hll:lens.length<=1024) (hpl:ps.length<=100) (hpb:∀ p∈ps,p.bys.length<=20000/\p.bits<=1000000) (hlt:∀ p∈bB ps,∀ x∈p.1,x<256):
  CallsV prog 80 [(.pointer (some ⟨g,0,none⟩))] w λ r w'=>Sat w [cL r 5 (aa .u8) (aM (jL n kind lens (bB ps)))] w':=by
 refine cg func80 rfl λ hs0=> .Z rfl<| .h<| .c 1 (lJ g n kind lv bv lens ps _ (hs0.ext _ _ h0) (hs0.ext _ _ h1) (hs0.ext _ _ h2) (hs0.ext _ _ h3) (hl.ext hs0.ext) (hb.ext hs0.ext) (λ p hp=>(hall p hp).ext hs0.ext) (hn) (hk) (hll) (hpl) (hpb)) rfl λ r1 _ h_1=> ?_
 have s1:=hs0.az h_1
 refine .c 0 (pS _ (jL n kind (lens) (bB ps)) _ (s1.ah 0 rfl) (BF _ _ _ _ hlt) (by have:=Gw (n:=n) (kind:=kind) hll hpl hpb;omega)) rfl λ r2 _ h_2=> ?_
 have s2:=s1.az h_2
 refine .Z rfl<| .aC rfl rfl ?_
 exact s2.pk [1]
end Go.Proofs.YthffkcnbdehceaaGreat
