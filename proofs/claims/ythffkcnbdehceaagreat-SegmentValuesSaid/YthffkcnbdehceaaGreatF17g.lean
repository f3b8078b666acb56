/-The walks of the functions of F17g,printed by our own program (kwgen.py) out of our descriptions (base.py). -/
import Derived.Test.YthffkcnbdehceaaGreatF16t
import Derived.Test.YthffkcnbdehceaaGreatF41
import Derived.Test.YthffkcnbdehceaaGreatM41e
import Derived.Test.YthffkcnbdehceaaGreatF41v
set_option linter.all false
set_option maxRecDepth 100000
open Go.Proofs.YthffkcnbdehceaaGreat
open List
open Go.Proofs.Tryz
namespace Go.Proofs.YthffkcnbdehceaaGreat
open Go.RowKit Go.Kw
def Gb(w0 w:World)(cs:List Chunk)(g:Nat)(v:Value)(by_:List Nat)(N pos p:Nat)(hs:Sat w0 ([aq g 274 [v,.int .i64 (N:Int),.int .i64 (pos:Int)],cL v 5 (a8 .u8) by_]++cs) w)(hp:p<=N):
  CallsV prog 170 [(.pointer (some ⟨g,0,none⟩)),(.int .i64 p)] w λ r w'=>r= .int .i64 ((0:Nat):Int)/\Sat w0 ([aq g 274 [v,.int .i64 (N:Int),.int .i64 (p:Int)],cL v 5 (a8 .u8) by_]++cs) w':=by
 refine ai func170 Y Y ?_;refine .Z Y<|.seq<|.h<|.z 3 Y<|.Gf 7 Y (AT (by omega))<|.cm 4 hs (kA _ (N) _ (hs.cell (i:=0) (j:=1) Y Y)) Y λ _ s1=>.Z Y<|.ao Y (AT (by omega))<|.skip<|.h<|.st 4 s1 0 Y λ _ s2 _=>?_;have s2d:=s2.sn;refine .nil<|.Z Y<|.aB Y Y ?_;exact⟨Y,s2d⟩
def P3{l:List Nat}{k p:Nat}(hp:l[16*k]? =some p):(fK l l.length)[k]? =some (p,(bC 0 (l.take (16*k))).length):=by
 have hk:=aL hp;have h1:=gJ l l.length;obtain⟨x,hx⟩:∃ x,(fK l l.length)[k]? =some x:=⟨_,py (by omega)⟩;rw[hx,(lX l _ _ _ hx).1,getD_some hp]
def uH{l:List Nat}{k i y:Nat}(hy:l[i]? =some y)(h:16*k<=i):(l.take i).drop (16*k)++[y]=(l.take (i+1)).drop (16*k):=by
 have:=aL hy;rw[aj hy,drop_append_of_le_length (by rw[KW];omega)]
def Ea{l:List Nat}{k i z:Nat}(hz:l[i-1]? =some z)(h:16*k<i):((l.take i).drop (16*k))[((l.take i).drop (16*k)).length-1]? =some z:=by
 have h1:=aL hz;rw[Ry,KW,SZ,show 16*k+(min i l.length-16*k-1)=i-1 by omega,SG,No (by omega)];exact hz
def Eb{l:List Nat}{k p:Nat}(hp:l[16*k]? =some p):[p]=(l.take (16*k+1)).drop (16*k):=by
 rw[<-uH hp (KD _),drop_eq_nil_of_le (by rw[KW];omega)];rfl
def Gc(l:List Nat)(k:Nat):l.take (16*k)++(l.take (16*k+16)).drop (16*k)=l.take (16*(k+1)):=by
 have h:=RY (16*k) (l.take (16*k+16));rw[take_take,show min (16*k) (16*k+16)=16*k by omega]at h;rw[h,show 16*(k+1)=16*k+16 by omega]
def Gd(g:Nat)(bv sv:Value)(l:List Nat)(w:World)(h0:w.cell? ⟨g,0,none⟩=some (.int .i64 (l.length:Int)))(h1:w.cell? ⟨g,1,none⟩=some (.int .i64 ((bC 0 l).length:Int)))(h2:w.cell? ⟨g,2,none⟩=some bv)(h3:w.cell? ⟨g,3,none⟩=some sv)(hbr:RdL w bv (a8 .u8) (aE (bC 0 l)))(hsr:RdL w sv mm (fK l l.length))(hl:OkP l)(k:Nat)(hk:16*k<l.length):
  CallsV prog 110 [(.pointer (some ⟨g,0,none⟩)),(.int .i64 k)] w λ r w'=>Sat w [cL r 3 (a8 .i64) ((l.take (16*k+16)).drop (16*k))] w':=by
 have hln:=hl.len;have hgl:=j1 l 0 hl.lt;have hpl:=aK (bC 0 l);have hpb:=fQ (bC 0 l);have htp:(aE (bC 0 l)).take (((bC 0 l).length+7)/8)=aE (bC 0 l):=Ru (by rw[hpl];exact KD _);obtain⟨p,hp⟩:∃ p,l[16*k]? =some p:=⟨_,py hk⟩;have hpx:=hl.lt p (a7 hp);have hsk:=P3 hp;have hskl:=aL hsk;obtain⟨hq1,hq2,hq3⟩:=Ga hl hp;have hbf:=pD hl hp;have hgk:=rA l (show 16*k<=l.length by omega);rw[RD]at hgk;have hs0:=Sat.start w;refine ai func110 Y Y ?_;refine .Z Y<|.seq<|.dk [] hs0 Y (pl [0,1,2,3,4,5,6,7,1008,9,10,11,12,13] .fin) λ s1 S1=>.z 3 S1 Y<|.e Y (λ _ s=>.load xw Y (s.ext _ _ h2)) S1<|.z 3 S1 Y<|.e Y (λ _ s=>.load ff Y (s.ext _ _ h1)) S1<|.c 0 S1 (gq _ (aE (bC 0 l)) ((bC 0 l).length) _ (hbr.ext s1.ext) (by rw[hpl];omega) (by rw[hpl];omega)) Y λ r1 _ h_1=>?_;obtain⟨rg_1,rv1,rfl,p1⟩:=h_1;have s2:=s1.ax p1;have S2:=s2.pk [];refine⟨S2,?_⟩;refine .Z S2 Y<|.h<|.a 4 Y (.load iQ Y (s2.ext _ _ h3))<|.ix 1 (hsr.ext s2.ext) Y<|.fl 0 (hsr.ext s2.ext) Y<|.lf 0 (hsr.ext s2.ext) hsk Y ?_;have A1:=s2.tail.oc [0,1] 2;refine .c 0 (Gb _ _ _ _ _ ((aE (bC 0 l)).take (((bC 0 l).length+7)/8)) ((bC 0 l).length) (0) ((p,(bC 0 (l.take (16*k))).length).2) A1 (by omega)) Y λ r2 _ h_2=>?_;obtain⟨rfl,p2⟩:=h_2;have s3:=(Sat.order [0,1] (by decide) p2.join).aF.nn;refine .nil<|.h<|.z 1 Y ?_;have A2:=s3.tail.oc [0,1] 2;refine .c 0 (wE _ _ _ _ _ ((aE (bC 0 l)).take (((bC 0 l).length+7)/8)) ((bC 0 l).length) ((p,(bC 0 (l.take (16*k))).length).2) (p+1-qi l (16*k)) A2 (by rw[htp];exact hpb) (by rw[htp,hpl];omega) (by rw[htp,hpl];omega) (by omega) (by omega) (by rw[hq2];exact hq3) (by rw[htp];exact hq1)) Y λ r3 _ h_3=>?_;obtain⟨rfl,p3⟩:=h_3;have s4:=(Sat.order [0,1] (by decide) p3.join).aF.nn;refine .nil<|.h<|.a 3 Y (.load iQ Y (s4.ext _ _ h3))<|.ix 1 (hsr.ext s4.ext) Y<|.fl 0 (hsr.ext s4.ext) Y<|.lf 0 (hsr.ext s4.ext) hsk Y<|.f Y (.bO (a8 .i64) ((p,(bC 0 (l.take (16*k))).length).1) aY Y s4 Y λ v1 _ s5 _=>?_);refine .Z Y<|.seq<|.Z Y<|.block ?_;have s6:=s5.bk 2 Y (show[(p,(bC 0 (l.take (16*k))).length).1]=(l.take (k*16+1)).drop (16*k)from by rw[show k*16+1=16*k+1 by omega];exact Eb hp);refine .lq [0,1,4,5] Y (α:=Nat×Nat×Value) (λ(i,ps,ov)=>[(7,ov),(8,(.int .i64 i))]) (λ(i,ps,ov) w'=>Sat w (s6.U [(0,aq rg_1 274 [rv1,(.int .i64 ((bC 0 l).length:Nat)),(.int .i64 ps)]),(2,cL ov 3 (a8 .i64) ((l.take i).drop (16*k)))]) w'/\(16*k+1<=i)/\(i<=l.length)/\(i<=16*k+16)/\(ps=(bC 0 (l.take (i))).length)) (λ(i,ps,ov)=>l.length-i) (k*16+1,((p,(bC 0 (l.take (16*k))).length).2+(fc (p+1-qi l (16*k))).length),v1) ⟨s6,by omega,by omega,by omega,by rw[show k*16+1=16*k+1 by omega];exact hq2⟩ ?_;rintro⟨i,ps,ov⟩ w5 ⟨s7,hi1,hi2,hi3,hps⟩;refine .seq<|.h<|.a 4 Y (.load ff Y (s7.ext _ _ h0))<|.a 3 Y (.Jc Y Y)<|.Z Y<|.ae Y (λ c1=>?_) λ c1=>?_
 ·refine .skip<|.seq<|.block<|.seq ?_;obtain⟨z,hz⟩:∃ z,l[i-1]? =some z:=⟨_,py (by omega)⟩;obtain⟨y,hy⟩:∃ y,l[i]? =some y:=⟨_,py (by omega)⟩;obtain⟨hy1,hy2,hy3⟩:=Ga hl hy;have hyb:=pD hl hy;have hyx:=hl.lt y (a7 hy);have hzb:=jt hz;rw[show i-1+1=i by omega]at hzb;have hlz:=Ea hz (show 16*k<i by omega);have hol:((l.take i).drop (16*k)).length=i-16*k:=by rw[Ry,KW];omega
  refine .region<|.z 1 Y ?_;have A3:=s7.tail.oc [0,1,2] 2;refine .c 0 (wE _ _ _ _ _ ((aE (bC 0 l)).take (((bC 0 l).length+7)/8)) ((bC 0 l).length) (ps) (y+1-qi l i) A3 (by rw[htp];exact hpb) (by rw[htp,hpl];omega) (by rw[htp,hpl];omega) (by omega) (by omega) (by rw[hps,hy2];exact hy3) (by rw[htp,hps];exact hy1)) Y λ r4 _ h4=>?_;obtain⟨rfl,p4⟩:=h4;have s8:=(Sat.order [0,1,2] (by decide) p4.join).aF.nn;refine .Z Y<|.region<|.ln 3 (s8.ah 2 Y) Y<|.ix 1 (s8.ah 2 Y) Y (hj:=by rw[hol];omega)<|.le 0 (s8.ah 2 Y) hlz Y<|.b 3 Y (.bO (a8 .i64) (z+(y+1-qi l i)) aY Y s8 Y λ v2 _ s9 _=>?_);refine .ap 0 s9 2 (s9.ah 3 Y) Y (h1:=by rw[hol];simp only[KM];omega) (h2:=by rw[hol];simp only[KM];omega) λ v3 _ s10 _=>?_;refine .Z Y<|.U Y ?_;have s11:=(s10.pk [0,1,2]).bk 2 Y (show(l.take i).drop (16*k)++[(z+(y+1-qi l i))]=(l.take (i+1)).drop (16*k)from by rw[show z+(y+1-qi l i)=y by omega];exact uH hy (by omega));exact aR (i+1,(ps+(fc (y+1-qi l i)).length),v3) ⟨s11.pk [0,1,2],by omega,by omega,by omega,by rw[hps,hy2]⟩
 refine .ar<|.Z Y<|.aB Y Y ?_;have s13:=s7.pk [2];have he:(l.take i).drop (16*k)=(l.take (16*k+16)).drop (16*k):=by
  rcases RG i (16*k+16)with h9|h9
  ·rw[Ru (by omega),Ru (by omega)]
  rw[show i=16*k+16 by omega]
 rw[he]at s13;exact s13
def K6(g:Nat)(bv sv:Value)(l:List Nat)(w:World)(h0:w.cell? ⟨g,0,none⟩=some (.int .i64 (l.length:Int)))(h1:w.cell? ⟨g,1,none⟩=some (.int .i64 ((bC 0 l).length:Int)))(h2:w.cell? ⟨g,2,none⟩=some bv)(h3:w.cell? ⟨g,3,none⟩=some sv)(hbr:RdL w bv (a8 .u8) (aE (bC 0 l)))(hsr:RdL w sv mm (fK l l.length))(hl:OkP l):
  CallsV prog 58 [(.pointer (some ⟨g,0,none⟩))] w λ r w'=>Sat w [cL r 3 (a8 .i64) l] w':=by
 have hln:=hl.len;have hsl:=gJ l l.length;have hs0:=Sat.start w;refine ai func58 Y Y ?_;refine .Z Y<|.Z Y<|.seq<|.h<|.a 3 Y (.load iQ Y (hs0.ext _ _ h3))<|.ln 0 (hsr.ext hs0.ext) Y<|.Z Y<|.block ?_;have s1:=hs0.az 3 (a8 .i64);have s2:=s1.bk 0 Y (show[]=l.take (16*0)from Y);refine .lq [0,2,9] Y (α:=Nat×Value) (λ(k,ov)=>[(3,ov),(10,(.int .i64 k))]) (λ(k,ov) w'=>Sat w [cL ov 3 (a8 .i64) (l.take (16*k))] w'/\(k<=(l.length+15)/16)) (λ(k,ov)=>(l.length+15)/16-k) (0,(.slice none 0 0)) ⟨s2,KB _⟩ ?_;rintro⟨k,ov⟩ w1 ⟨s3,hk⟩;refine .Z Y<|.seq<|.ae Y (λ c1=>?_) λ c1=>?_
 ·refine .skip<|.seq<|.block<|.Z Y<|.region<|.c 3 (Gd _ _ _ (l) _ (s3.ext _ _ h0) (s3.ext _ _ h1) (s3.ext _ _ h2) (s3.ext _ _ h3) (hbr.ext s3.ext) (hsr.ext s3.ext) hl (k) (by omega)) Y λ r1 _ h_1=>?_;have s4:=s3.ax h_1;refine .ap 0 s4 0 (s4.ah 1 Y) Y (h1:=by simp only[KW,Ry];omega) (h2:=by simp only[KW,Ry];omega) λ v1 _ s5 _=>.Z Y<|.U Y ?_;have s6:=s5.bk 0 Y (show l.take (16*k)++(l.take (16*k+16)).drop (16*k)=l.take (16*(k+1))from Gc l k);exact aR (k+1,v1) ⟨s6.pk [0],by omega⟩
 refine .ar<|.Z Y<|.aB Y Y ?_;have s9:=(s3.pk [0]).bk 0 Y (show l.take (16*k)=l from Ru (by omega));exact s9
def Ec{W:List ByteArray}(h:Asc W):W.Nodup:=h.imp λ hxy e=>by rw[e]at hxy;exact SLt.qU _ hxy
def tL(us:List ByteArray)(s:ByteArray):List Nat:=if(tN (aa us) s).2 then dz (da us) (tN (aa us) s).1 else[]
def N1{W:List ByteArray}{s:ByteArray}(h:(tN W s).2=true):W[(tN W s).1]? =some s:=by
 unfold tN at h⊢;split
 ·rename_i h1;exact h1
 rename_i h1;rw[M2 h1]at h;cases h
def N2(c:Co)(iv:Value)(ixs:List VV)(g i a:Nat)(x:Tk)(y:ByteArray)(w:World)(hg:∀ (j:Nat) u,[c.va,c.vt,c.vx,c.vr,c.vn,c.vh,c.vl,iv][j]? =some u->w.cell? ⟨g,j,none⟩=some u)(hr:RdC w c)(hix:RdL w iv gl ixs)(ha:a<ixs.length)(hx:c.tk[i]? =some x)(hy:x.ns[a]? =some y):
  CallsV prog 21 [(.pointer (some ⟨g,0,none⟩)),(.int .i64 i),(.int .i64 a)] w λ r w'=>r= .tuple #[.string y,.bool true]/\Sat w [] w':=by
 have hs0:=Sat.start w;have hil:=aL hx;have hal:=aL hy;refine ai func21 Y Y ?_;refine .Z Y<|.seq<|.h<|.z 3 Y<|.Gf 10 Y (AT (by omega))<|.a 5 Y (.load BP Y (hs0.ext _ _ (hg 1 _ Y)))<|.ln 0 (hr.t.ext hs0.ext) Y<|.z 3 Y<|.Gf 20 Y (AT (by omega))<|.z 4 Y<|.Gf 24 Y (AT (by omega))<|.a 4 Y (.load kd Y (hs0.ext _ _ (hg 7 _ Y)))<|.ln 0 (hix.ext hs0.ext) Y<|.Z Y<|.ao Y (AT (by omega))<|.skip<|.h<|.a 4 Y (.load BP Y (hs0.ext _ _ (hg 1 _ Y)))<|.ix 1 (hr.t.ext hs0.ext) Y<|.le 0 (hr.t.ext hs0.ext) hx Y<|.ix 1 ((hr.tr _ (a7 hx)).ext hs0.ext) Y<|.le 0 ((hr.tr _ (a7 hx)).ext hs0.ext) hy Y<|.Z Y<|.bP Y Y Y ?_;exact⟨Y,hs0.pk []⟩
def K7(c:Co)(iv:Value)(ixs:List VV)(g:Nat)(i a:Int)(w:World)(hg:∀ (j:Nat) u,[c.va,c.vt,c.vx,c.vr,c.vn,c.vh,c.vl,iv][j]? =some u->w.cell? ⟨g,j,none⟩=some u)(hr:RdC w c)(hix:RdL w iv gl ixs)(h:i<0\/(c.tk.length:Int)<=i\/a<0\/(ixs.length:Int)<=a):
  CallsV prog 21 [(.pointer (some ⟨g,0,none⟩)),(.int .i64 (i)),(.int .i64 (a))] w λ r w'=>r= .tuple #[.string ByteArray.empty,.bool false]/\Sat w [] w':=by
 have hs0:=Sat.start w;refine ai func21 Y Y ?_;refine .Z Y<|.seq<|.seq<|.bE 32 (((((i:Int)<(0:Int))\/(((c.tk.length:Nat):Int)<=(i:Int)))\/((a:Int)<(0:Int)))\/(((ixs.length:Nat):Int)<=(a:Int))) ?_ ?_
 ·refine .a 1 Y (.lss Y Y)<|.z 1 Y<|.B 10 Y (λ g1=>?_) λ g1=>?_
  ·refine .M Y (by simp[g1])
  refine .a 5 Y (.load BP Y (hs0.ext _ _ (hg 1 _ Y)))<|.ln 0 (hr.t.ext hs0.ext) Y<|.a 0 Y (.geq Y Y)<|.z 2 Y<|.B 20 Y (λ g2=>?_) λ g2=>?_
  ·refine .M Y (by simp[g1,g2])
  refine .a 1 Y (.lss Y Y)<|.z 2 Y<|.B 24 Y (λ g3=>?_) λ g3=>?_
  ·refine .M Y (by simp[g1,g2,g3])
  refine .a 4 Y (.load kd Y (hs0.ext _ _ (hg 7 _ Y)))<|.ln 0 (hix.ext hs0.ext) Y<|.a 0 Y (.geq Y Y)<|.M Y (by simp[g1,g2,g3])
 refine .eE Y (Rr (by omega))<|.Z Y<|.bP Y Y Y ?_;exact⟨Y,hs0.pk []⟩
def Ge(c:Co)(iv:Value)(ixs:List VV)(g a:Nat)(x:VV)(us:List ByteArray)(w:World)(hg:∀ (j:Nat) u,[c.va,c.vt,c.vx,c.vr,c.vn,c.vh,c.vl,iv][j]? =some u->w.cell? ⟨g,j,none⟩=some u)(hr:RdC w c)(hix:RdL w iv gl ixs)(hx:ixs[a]? =some x)(hI:Kb w x us)(hus:us.length<=1024):
  CallsV prog 22 [(.pointer (some ⟨g,0,none⟩)),(.int .i64 a)] w λ r w'=>Sat w [cL r 9 au (aa us)] w':=by
 have hs0:=Sat.start w;obtain⟨lg,vw,vc,vo,O,ls,hxa,hL,hls,hll,hLs⟩:=hI;have hal:=aL hx;have hwl:=bm us;have hwn:=cw us;refine ai func22 Y Y ?_;refine .Z Y<|.seq<|.h<|.z 3 Y<|.Gf 12 Y (AT (by omega))<|.a 4 Y (.load kd Y (hs0.ext _ _ (hg 7 _ Y)))<|.ln 0 (hix.ext hs0.ext) Y<|.Z Y<|.ao Y (AT (by omega))<|.skip<|.h<|.a 3 Y (.load kd Y (hs0.ext _ _ (hg 7 _ Y)))<|.ix 1 (hix.ext hs0.ext) Y<|.fl 0 (hix.ext hs0.ext) Y<|.lf 0 (hix.ext hs0.ext) hx Y<|.Z Y<|.seq<|.weaken [(0,_),(1,_),(4,_),(5,(.pointer (some ⟨lg,0,none⟩))),(10,_),(11,_),(12,_),(13,_),(14,_),(15,_),(16,_),(17,_),(18,_),(19,_),(21,_),(22,_),(23,_),(24,_),(25,_),(26,_),(27,_),(28,_)] ⟨Y,Y,Y,If some (hxa),Y,Y,Y,Y,Y,Y,Y,Y,Y,Y,Y,Y,Y,Y,Y,Y,Y,Y,trivial⟩<|.U Y<|.seq<|.h<|.cp 1 hs0 (wA _ _ _ _ _ _ _ _ (hL.ext hs0.ext)) Y λ _ s1=>.Z Y<|.block ?_;have s2:=s1.az 9 (au);have s3:=s2.bk 0 Y (show[]=(aa us).take 0 from Y);refine .lq [0,1,4,5,30] Y (α:=Nat×Value) (λ(k,ov)=>[(6,ov),(31,(.int .i64 k))]) (λ(k,ov) w'=>Sat w [cL ov 9 (au) ((aa us).take k)] w'/\(k<=(aa us).length)) (λ(k,ov)=>(aa us).length-k) (0,(.slice none 0 0)) ⟨s3,KB _⟩ ?_;rintro⟨k,ov⟩ w2 ⟨s4,hk⟩;refine .Z Y<|.seq<|.ae Y (λ c1=>?_) λ c1=>?_
 ·refine .skip<|.seq<|.block<|.Z Y<|.h<|.cq 2 s4 (BY _ _ _ _ _ _ _ ((k:Nat):Int) _ (hL.ext s4.ext)) Y λ _ s5=>.Z Y ?_;obtain⟨y,hy⟩:∃ y,(aa us)[k]? =some y:=⟨_,py (by omega)⟩;have hwd:=ri hy;refine .weaken [(0,_),(1,_),(4,_),(5,_),(6,_),(7,_),(8,(.string y)),(9,_),(30,_),(31,_),(33,_),(34,_),(35,_),(36,_),(37,_),(38,_),(39,_)] ⟨Y,Y,Y,Y,Y,Y,If some (If (λ q:ByteArray×Bool=>Value.string q.1) hwd),Y,Y,Y,Y,Y,Y,Y,Y,Y,Y,trivial⟩<|.region<|.b 2 Y (.bO (au) y bL Y s5 Y λ v1 _ s6 _=>?_);refine .ap 0 s6 0 (s6.ah 1 Y) Y (h1:=by simp only[KW,KM];omega) (h2:=by simp only[KW,KM];omega) λ v2 _ s7 _=>?_;refine .Z Y<|.U Y ?_;have s8:=(s7.pk [0]).bk 0 Y (show(aa us).take k++[y]=(aa us).take (k+1)from(aj hy).symm);exact aR (k+1,v2) ⟨s8.pk [0],by omega⟩
 refine .ar<|.seq ?_;have s10:=s4.bk 0 Y (show(aa us).take k=aa us from Ru (by omega));refine .region<|.c 1 (xW w _ _ 0 _ _ s10 Y (by omega)) Y λ r3 _ h3=>?_;obtain⟨rfl,h_3S⟩:=h3;have h3d:Sat w [cL ov 9 (au) (gV (aa us))] _:=h_3S;refine .nil<|.Z Y<|.aB Y Y ?_;have s12:=(h3d.pk [0]).bk 0 Y (show gV (aa us)=aa us from kJ (Ec hwn) (λ x=>bK));exact s12
def Ed(c:Co)(iv:Value)(ixs:List VV)(g:Nat)(a:Int)(w:World)(hg:∀ (j:Nat) u,[c.va,c.vt,c.vx,c.vr,c.vn,c.vh,c.vl,iv][j]? =some u->w.cell? ⟨g,j,none⟩=some u)(hr:RdC w c)(hix:RdL w iv gl ixs)(h:a<0\/(ixs.length:Int)<=a):
  CallsV prog 22 [(.pointer (some ⟨g,0,none⟩)),(.int .i64 (a))] w λ r w'=>r= .slice none 0 0/\Sat w [] w':=by
 have hs0:=Sat.start w;refine ai func22 Y Y ?_;refine .Z Y<|.seq<|.seq<|.bE 20 (((a:Int)<(0:Int))\/(((ixs.length:Nat):Int)<=(a:Int))) ?_ ?_
 ·refine .a 1 Y (.lss Y Y)<|.z 1 Y<|.B 12 Y (λ g1=>?_) λ g1=>?_
  ·refine .M Y (by simp[g1])
  refine .a 4 Y (.load kd Y (hs0.ext _ _ (hg 7 _ Y)))<|.ln 0 (hix.ext hs0.ext) Y<|.a 0 Y (.geq Y Y)<|.M Y (by simp[g1])
 refine .eE Y (Rr (by omega))<|.Z Y<|.aB Y Y ?_;exact⟨Y,hs0.pk []⟩
def Gg(c:Co)(iv:Value)(ixs:List VV)(g:Nat)(a:Int)(s:ByteArray)(w:World)(hg:∀ (j:Nat) u,[c.va,c.vt,c.vx,c.vr,c.vn,c.vh,c.vl,iv][j]? =some u->w.cell? ⟨g,j,none⟩=some u)(hr:RdC w c)(hix:RdL w iv gl ixs)(h:a<0\/(ixs.length:Int)<=a):
  CallsV prog 23 [(.pointer (some ⟨g,0,none⟩)),(.int .i64 (a)),(.string s)] w λ r w'=>r= .slice none 0 0/\Sat w [] w':=by
 have hs0:=Sat.start w;refine ai func23 Y Y ?_;refine .Z Y<|.seq<|.seq<|.bE 19 (((a:Int)<(0:Int))\/(((ixs.length:Nat):Int)<=(a:Int))) ?_ ?_
 ·refine .a 1 Y (.lss Y Y)<|.z 1 Y<|.B 11 Y (λ g1=>?_) λ g1=>?_
  ·refine .M Y (by simp[g1])
  refine .a 4 Y (.load kd Y (hs0.ext _ _ (hg 7 _ Y)))<|.ln 0 (hix.ext hs0.ext) Y<|.a 0 Y (.geq Y Y)<|.M Y (by simp[g1])
 refine .eE Y (Rr (by omega))<|.Z Y<|.aB Y Y ?_;exact⟨Y,hs0.pk []⟩
def K8(c:Co)(iv:Value)(ixs:List VV)(g a:Nat)(x:VV)(us:List ByteArray)(s:ByteArray)(w:World)(hg:∀ (j:Nat) u,[c.va,c.vt,c.vx,c.vr,c.vn,c.vh,c.vl,iv][j]? =some u->w.cell? ⟨g,j,none⟩=some u)(hr:RdC w c)(hix:RdL w iv gl ixs)(hx:ixs[a]? =some x)(hI:Kb w x us)(hus:us.length<=1024):
  CallsV prog 23 [(.pointer (some ⟨g,0,none⟩)),(.int .i64 a),(.string s)] w λ r w'=>Sat w [cL r 3 (a8 .i64) (tL us s)] w':=by
 have hs0:=Sat.start w;obtain⟨lg,vw,vc,vo,O,ls,hxa,hL,hls,hll,hLs⟩:=hI;have hal:=aL hx;have hwl:=bm us;have hwn:=cw us;obtain⟨xa,xb,p1,p2⟩:=x;simp only at hxa hls;subst hxa;refine ai func23 Y Y ?_;refine .Z Y<|.seq<|.h<|.z 3 Y<|.Gf 11 Y (AT (by omega))<|.a 4 Y (.load kd Y (hs0.ext _ _ (hg 7 _ Y)))<|.ln 0 (hix.ext hs0.ext) Y<|.Z Y<|.ao Y (AT (by omega))<|.skip<|.h<|.a 3 Y (.load kd Y (hs0.ext _ _ (hg 7 _ Y)))<|.ix 1 (hix.ext hs0.ext) Y<|.fl 0 (hix.ext hs0.ext) Y<|.lf 0 (hix.ext hs0.ext) hx Y<|.cp 1 hs0 (uq _ _ _ _ _ _ _ s _ (hL.ext hs0.ext) hwn (by omega)) Y λ _ s1=>.Z Y<|.seq<|.h<|.a 1 Y (.cJ Y)<|.nil<|.cond Y (λ c1=>?_) (λ c1=>?_)
 ·refine .Z Y<|.aB Y Y ?_;rw[show tL us s=[]from by unfold tL;rw[M2 (by simpa using c1)]];exact(s1.pk []).az 3 (a8 .i64)
 refine .skip<|.seq ?_;have hnt:(tN (aa us) s).2=true:=by simpa using c1
 have hnf:=N1 hnt;have hnl:=aL hnf;obtain⟨b,hb⟩:∃ b,ls[(tN (aa us) s).1]? =some b:=⟨_,py (by omega)⟩;obtain⟨pg,rfl,bv,sv,h0,h1,h2,h3,hbr,hsr⟩:=hLs _ _ hb;have hpo:OkP (dz (da us) (tN (aa us) s).1):=kb _ (by unfold da;rw[Rq];omega);refine .region<|.a 3 Y (.load kd Y (s1.ext _ _ (hg 7 _ Y)))<|.ix 1 (hix.ext s1.ext) Y<|.fl 0 (hix.ext s1.ext) Y<|.lf 0 (hix.ext s1.ext) hx Y<|.ix 1 (hls.ext s1.ext) Y<|.le 0 (hls.ext s1.ext) hb Y<|.c 0 (K6 _ _ _ (dz (da us) (tN (aa us) s).1) _ (s1.ext _ _ h0) (s1.ext _ _ h1) (s1.ext _ _ h2) (s1.ext _ _ h3) (hbr.ext s1.ext) (hsr.ext s1.ext) hpo) Y λ r2 _ h_2=>?_;have s3:=s1.ax h_2;refine .Z Y<|.aB Y Y ?_;have s5:=(s3.pk [0]).bk 0 Y (show dz (da us) (tN (aa us) s).1=tL us s from by unfold tL;rw[No hnt]);exact s5
def iC{α:Type}{a x:α}{i:Nat}(h:[a][i]? =some x):i=0/\x=a:=by
 cases i with
 |zero=>cases h;exact⟨Y,Y⟩
 |succ i=>simp at h
def Gh{va vt vx vr vn vh vl:Value}{sv:SV}:OkC 1 (Co.mk va vt vx vr vn vh vl [(⟨#[97]⟩,false)] [⟨sv,[⟨#[120]⟩]⟩] [⟨⟨#[116]⟩,0,1,⟨none,0,0⟩,[]⟩] [] [] [] []) where
 at_:=⟨λ i x hx=>by
  obtain⟨rfl,rfl⟩:=iC hx;exact⟨by decide,Y⟩,KD 1,show(1:Nat)<=8 by decide⟩
 tk t ht:=by
  rw[RL.1 ht];refine⟨Y,λ i v a hv ha=>?_⟩;obtain⟨_,rfl⟩:=iC hv;obtain⟨_,rfl⟩:=iC ha;exact⟨λ _=>kU (by decide) (by decide),λ h=>by cases h⟩
 voc t ht i v hv:=by
  rw[RL.1 ht]at hv;obtain⟨rfl,rfl⟩:=iC hv;exact Sn _ (RL.2 Y)
 tx:={
  nm:=λ x hx=>by rw[RL.1 hx];exact⟨by decide,sj,Vc 0,show(0:Int)<1 by decide,Vc 1⟩
  nd:=λ i j x y hx hy h=>by have:=(iC hx).1;omega
  first:=λ x hx=>by rw[(iC hx).2]
  next:=λ i x y hx hy=>by have:=(iC hy).1;omega
  last:=λ i x hx h=>by rw[(iC hx).2]<;>rfl
  none_:=⟨λ h=>(by cases h),λ h=>by have h9:(1:Int)=0:=h;omega⟩}
 rg:=⟨λ x hx=>(by cases hx),λ i x y hx=>(by simp at hx),λ x hx=>(by cases hx)⟩
 nd:=⟨λ x hx=>(by cases hx),λ i x hx=>(by simp at hx),λ s i x y hx=>(by simp at hx)⟩
 hd:=.inl ⟨Y,Y⟩
 ntk:=show(1:Nat)<=12 by decide
 ntx:=KD 1
 nrg:=KB _
 nnd:=KB _
def wH{X:List ByteArray->List Nat}{T:List Nat->List Nat}(c:Co):(strOf (aN (kc X T c.v))).extract 0 3=⟨#[67,83,49]⟩/\3<(strOf (aN (kc X T c.v))).size:=by
 rw[ot];refine⟨?_,?_⟩
 ·unfold aN;rw[KV];apply zO;unfold cr;rw[FH];rfl
 rw[ca,bQ];simp only[sp,LW,Rp];omega
def rC(w:World):
  CallsV prog 13 [] w λ r w'=>r= .bool true/\Sat w [] w':=by
 have hs0:=Sat.start w;refine ai func13 Y Y ?_;refine .Z Y<|.h<|.e Y (.build IH Y ⟨Y,trivial⟩ Y)<|.f Y (.cn (cP) ((⟨#[97]⟩:ByteArray),false) Fo (by decide) (by decide) hs0 Y λ v1 _ s1 _=>?_);refine .f Y (.bO (au) (ByteArray.mk #[120]) bL Y s1 Y λ v2 _ s2 _=>?_);obtain⟨sv1,hsv1,hsv1n⟩:=(s2.ah 1 Y).sv;subst hsv1;refine .f Y (.bO (ja) (⟨sv1,[⟨#[120]⟩]⟩:Tk) BQ Y s2 Y λ v3 _ s3 _=>?_);have s3:=s3.nn;refine .e Y (.build Ly Y ⟨Y,Y,trivial⟩ Y)<|.f Y (.cn (aI) (⟨⟨#[116]⟩,0,1,⟨none,0,0⟩,[]⟩:Iv) uc (by decide) (by decide) s3 Y λ v_4 _ s4 _=>?_);refine .e Y (.build O2 Y ⟨(s4.ah 0 Y).ab,(s4.ah 2 Y).ab,(s4.ah 3 Y).ab,trivial⟩ Y)<|.al 0 s4 Y λ b1 _ s5 _ _=>.sa 0 s5 4 (vs:=[v1,v3,v_4,(.slice none 0 0),(.slice none 0 0),(.slice none 0 0),(.slice none 0 0)]) Y (λ v h=>by simp only[Rx,RF,Sa]at h;rcases h with rfl|rfl|rfl|rfl|rfl|rfl|rfl;exact(s5.ah 0 Y).ab;exact(s5.ah 2 Y).ab;exact(s5.ah 3 Y).ab;exact Y;exact Y;exact Y;exact Y) λ _ s6 _=>?_;have s6:=s6.nn;refine .nil<|.seq ?_;have oc0:=(s6.ah (E:=cP) 0 Y).ab;have oc1:=(s6.ah (E:=ja) 2 Y).ab;have oc2:=(s6.ah (E:=aI) 3 Y).ab;have s7:=(Sat.order [0,2,3,1,4] (by decide) s6.tail).aF.pk [0,1,2,3,4];obtain⟨hF1,s8⟩:=s7.wc 4 (Q:=λ w1=>RdC w1 (Co.mk v1 v3 v_4 (Value.slice none 0 0) (Value.slice none 0 0) (Value.slice none 0 0) (Value.slice none 0 0) [(⟨#[97]⟩,false)] [⟨sv1,[⟨#[120]⟩]⟩] [(⟨⟨#[116]⟩,0,1,⟨none,0,0⟩,[]⟩:Iv)] [] [] [] [])) (λ w1 hA=>⟨hA.ah 0 Y,hA.ah 1 Y,hA.ah 2 Y,RdL.nil _ _,RdL.nil _ _,RdL.nil _ _,RdL.nil _ _,(λ t ht=>by rw[RL.1 ht];exact hA.ah 3 Y),(λ t ht=>by rw[RL.1 ht];exact RdL.nil _ _),λ t ht=>by cases ht⟩);refine .region<|.lo 0 s8 1 Y<|.cp 0 s8 (uK (Co.mk v1 v3 v_4 (Value.slice none 0 0) (Value.slice none 0 0) (Value.slice none 0 0) (Value.slice none 0 0) [(⟨#[97]⟩,false)] [⟨sv1,[⟨#[120]⟩]⟩] [(⟨⟨#[116]⟩,0,1,⟨none,0,0⟩,[]⟩:Iv)] [] [] [] []) 1 _ (s8.bo 0 Y) Gh (by decide)) Y λ _ s9=>.Z Y<|.h<|.c 1 (yp (c:=(Co.mk v1 v3 v_4 (Value.slice none 0 0) (Value.slice none 0 0) (Value.slice none 0 0) (Value.slice none 0 0) [(⟨#[97]⟩,false)] [⟨sv1,[⟨#[120]⟩]⟩] [(⟨⟨#[116]⟩,0,1,⟨none,0,0⟩,[]⟩:Iv)] [] [] [] [])) (n:=1) Gh (by decide)) Y λ r2 _ h2=>?_;obtain⟨ed1,eF1,rfl,hed1v,p2⟩:=h2;have s10:=s9.ax p2;refine .al 3 s10 Y λ b2 _ s11 _ _=>?_;have s11:=s11.nn;refine .sa 0 s11 3 (vs:=[ed1.va,ed1.vt,ed1.vx,ed1.vr,ed1.vn,ed1.vh,ed1.vl]) Y (λ v h=>by simp only[Rx,RF,Sa]at h;rcases h with rfl|rfl|rfl|rfl|rfl|rfl|rfl;exact(s11.bo 2 Y).a.ab;exact(s11.bo 2 Y).t.ab;exact(s11.bo 2 Y).x.ab;exact(s11.bo 2 Y).r.ab;exact(s11.bo 2 Y).n.ab;exact(s11.bo 2 Y).h.ab;exact(s11.bo 2 Y).l.ab) λ _ s12 _=>.Z Y<|.h<|.lo 7 s12 1 Y<|.lo 0 s12 3 Y<|.c 0 (DC (Co.mk v1 v3 v_4 (Value.slice none 0 0) (Value.slice none 0 0) (Value.slice none 0 0) (Value.slice none 0 0) [(⟨#[97]⟩,false)] [⟨sv1,[⟨#[120]⟩]⟩] [(⟨⟨#[116]⟩,0,1,⟨none,0,0⟩,[]⟩:Iv)] [] [] [] []) ed1 _ (s12.bo 0 Y) (s12.bo 2 Y) (Gh.sm (by decide))) Y λ r3 _ h3=>?_;obtain⟨eq1,rfl,heq1,p3⟩:=h3;have s13:=s12.ax p3;refine .z 2 Y<|.Gt 34 Y (heq1.2 hed1v)<|.a 1 Y (.bA underlying9 Y)<|.z 3 Y<|.Gt 39 Y (Rr ((wH (X:=lexB) (T:=cj) (Co.mk v1 v3 v_4 (Value.slice none 0 0) (Value.slice none 0 0) (Value.slice none 0 0) (Value.slice none 0 0) [(⟨#[97]⟩,false)] [⟨sv1,[⟨#[120]⟩]⟩] [(⟨⟨#[116]⟩,0,1,⟨none,0,0⟩,[]⟩:Iv)] [] [] [] [])).2))<|.a 1 Y (.fZ (l:=0) (h:=3) underlying9 Y Y ⟨_,Y⟩ (KB _) (by have:=(wH (X:=lexB) (T:=cj) (Co.mk v1 v3 v_4 (Value.slice none 0 0) (Value.slice none 0 0) (Value.slice none 0 0) (Value.slice none 0 0) [(⟨#[97]⟩,false)] [⟨sv1,[⟨#[120]⟩]⟩] [(⟨⟨#[116]⟩,0,1,⟨none,0,0⟩,[]⟩:Iv)] [] [] [] [])).2;omega))<|.a 0 Y (.fh Y Y)<|.Z Y<|.aB Y Y ?_;exact⟨If Value.bool (Rr ((wH (X:=lexB) (T:=cj) (Co.mk v1 v3 v_4 (Value.slice none 0 0) (Value.slice none 0 0) (Value.slice none 0 0) (Value.slice none 0 0) [(⟨#[97]⟩,false)] [⟨sv1,[⟨#[120]⟩]⟩] [(⟨⟨#[116]⟩,0,1,⟨none,0,0⟩,[]⟩:Iv)] [] [] [] [])).1)),s13.pk []⟩
def cT(v:Nat)(w:World)(hv:v<2^64):
  CallsV prog 141 [(.int .u64 v)] w λ r w'=>Sat w [cL r 5 (a8 .u8) (uv v)] w':=by
 refine bY func141 Y λ hs0=>.Z Y<|.Z Y<|.seq<|.block ?_;have s1:=hs0.az 5 (a8 .u8);refine .loop (α:=Nat×Value×List Nat) (λ(v2,out,acc)=>[(0,(.int .u64 v2)),(3,out)]) (λ(v2,out,acc) w'=>Sat w [cL out 5 (a8 .u8) (acc)] w'/\(v2<2^64)/\(acc++uv v2=uv v)) (λ(v2,out,acc)=>v2) (v,(.slice none 0 0),[]) (wk Y) ⟨s1,hv,Y⟩ ?_;rintro⟨v2,out,acc⟩ w1 ⟨s2,hv2,hacc⟩;have hl2:=If List.length hacc;simp only[sp]at hl2;have hu1:=aC v;have hu2:=HE v2;refine .seq<|.Z Y<|.ae Y (λ c1=>?_) λ c1=>?_
 ·refine .skip<|.block<|.h<|.a 2 Y (.rem (b:=128) Y Y (by omega))<|.e Y (.ik (by rw[underlying132]<;>rfl) underlying5 Y Y)<|.e Y (.M8 (b:=128) Y Y Y)<|.f Y (.bO (a8 .u8) ((((v2%128)%2^8)+128)%2^8) ck Y s2 Y λ v1 _ s3 _=>?_);refine .ap 0 s3 0 (s3.ah 1 Y) Y λ v_2 _ s4 _=>?_;refine .Z Y<|.region<|.a 1 Y (.Q3 (b:=128) Y Y Y (by omega) (by(try simp only[IntKind.bits]);omega))<|.Z Y ?_;exact aR ((v2/128),v_2,acc++[((((v2%128)%2^8)+128)%2^8)]) ⟨s4.pk [0],by omega,by rw[<-hacc,yR hv2 c1,show((((v2%128)%2^8)+128)%2^8)=v2%128+128 by omega];simp⟩
 refine .ar<|.h<|.a 2 Y (.ik (by rw[underlying132]<;>rfl) underlying5 Y Y)<|.f Y (.bO (a8 .u8) (v2%2^8) ck Y s2 Y λ v3 _ s5 _=>?_);refine .ap 0 s5 0 (s5.ah 1 Y) Y λ v_4 _ s6 _=>?_;refine .Z Y<|.aB Y Y ?_;have hq:acc++[(v2%2^8)]=uv v:=by rw[<-hacc,lJ (by omega)]<;>(first|rfl|(congr 1;simp;omega))
 rw[<-hq];exact s6.pick [0] Y
def n1(x m:Nat)(w:World)(hx:x<2^64)(hm:m<=64):
  CallsV prog 204 [(.int .u64 x),(.int .i64 m)] w λ r w'=>Sat w [cL r 4 iV (aT x m)] w':=by
 refine bY func204 Y λ hs0=>.Z Y<|.Z Y<|.seq<|.h<|.a 1 Y (.sub (b:=(1:Int)) Y Y (by unfold aZ;omega))<|.Z Y<|.block ?_;have s1:=hs0.az 4 (iV);refine .lq [0] Y (α:=Nat×Value×List Bool) (λ(m1,out,acc)=>[(5,out),(6,(.int .i64 ((((m1:Nat):Int)-1))))]) (λ(m1,out,acc) w'=>Sat w [cL out 4 (iV) (acc)] w'/\(m1<=m)/\(acc++aT x m1=aT x m)) (λ(m1,out,acc)=>m1) (m,(.slice none 0 0),[]) ⟨s1,KD _,Y⟩ ?_;rintro⟨m1,out,acc⟩ w1 ⟨s2,hm1,hacc⟩;refine .seq<|.h<|.a 1 Y (.geq Y Y)<|.nil<|.ae Y (λ c1=>?_) λ c1=>?_
 ·refine .skip<|.seq<|.block ?_;obtain⟨j,rfl⟩:∃ j,m1=j+1:=⟨m1-1,by omega⟩;refine .weaken [(0,_),(5,_),(6,(.int .i64 j)),(9,_)] ⟨Y,Y,If some (If (Value.int .i64) (by omega)),Y,trivial⟩ ?_;have hl2:=If List.length hacc;simp only[sp,aH]at hl2;refine .region<|.a 4 Y (.M7 Y Y (hx))<|.e Y (.IY (b:=1) 1 Y Y Y (by decide) (UK (SN _ _) hx) (by decide))<|.b 1 Y (.bO (iV) (decide (((x/2^j)%2^1)=1)) ql Y s2 Y λ v1 _ s3 _=>?_);refine .ap 0 s3 0 (s3.ah 1 Y) Y λ v2 _ s4 _=>?_;refine .Z Y<|.region<|.a 1 Y (.sub (b:=(1:Int)) Y Y (by unfold aZ;omega))<|.Z Y ?_;exact⟨(j,v2,acc++[decide (((x/2^j)%2^1)=1)]),(wk Y),⟨s4.pk [0],by omega,by rw[<-hacc];simp[aT]⟩,(show((j))<(j+1)from by omega)⟩
 refine .ar<|.Z Y<|.aB Y Y ?_;have h0:m1=0:=by omega
 subst h0;rw[show acc=aT x m by rw[<-hacc];simp[aT]]at s2;exact s2
def rD(v:Value)(l:List Bool)(w:World)(hv:RdL w v iV l)(hn:l.length<=1000000000):
  CallsV prog 148 [v] w λ r w'=>Sat w [cL r 5 (a8 .u8) (aE l)] w':=by
 refine bY func148 Y λ hs0=>.Z Y<|.h<|.ln 1 (hv.ext hs0.ext) Y<|.a 1 Y (.quo (b:=8) Y Y (by omega) (by unfold aZ;omega))<|.f Y (.cQ (a8 .u8) (0) ck Y hs0 Y Y (by omega) (by omega) (by omega) λ v1 _ s1 _=>?_);refine .Z Y<|.seq<|.h<|.ln 1 (hv.ext s1.ext) Y<|.Z Y<|.block ?_;have s2:=s1.bk 0 Y (show List.replicate (((l.length+7)/8)) 0=rZ l 0 from by rw[Hd]);refine .lq [3,11,12] Y (α:=Nat) (λ k=>[(13,(.int .i64 k))]) (λ k w'=>Sat w [cL v1 5 (a8 .u8) (rZ l k)] w'/\(k<=l.length)) (λ k=>l.length-k) 0 ⟨s2,KB _⟩ ?_;rintro k w2 ⟨s3,hk⟩;refine .Z Y<|.seq<|.ae Y (λ c1=>?_) λ c1=>?_
 ·refine .skip<|.seq<|.block<|.seq ?_;obtain⟨x,hx⟩:∃ x,(l)[k]? =some x:=⟨_,py c1⟩;refine .region<|.ix 1 (hv.ext s3.ext) Y<|.le 0 (hv.ext s3.ext) hx Y<|.Z Y<|.Z Y<|.cond Y (λ c2=>?_) (λ c2=>?_)
  ·have hgt:=KE (aL hx);have hbl:=lO (l.take k) (k/8);have hdl:=SN 128 (2^(k%8));refine .region<|.a 2 Y (.quo (b:=8) Y Y (by omega) (by unfold aZ;omega))<|.ix 0 (s3.ah 0 Y) Y (hj:=by rw[mC];omega)<|.le 0 (s3.ah 0 Y) hgt Y<|.a 1 Y (.rem (b:=8) Y Y (by omega))<|.ix 3 (s3.ah 0 Y) Y (hj:=by rw[mC];omega)<|.f Y (.dj (a:=((cD (l.take k) (k/8))|||(128/2^(k%8)))) 0 PA s3 Y Y Y Y (by rw[mC];omega) λ _ s4 _=>?_);have s4:=s4.nn;refine .nil<|.U Y ?_;have s5:=s4.bk 0 Y (show(rZ l k).set (k/8) ((cD (l.take k) (k/8))|||(128/2^(k%8)))=rZ l (k+1)from by rw[He (by rw[hx,c2])]);exact aR (k+1) ⟨s5,by omega⟩
  refine .skip<|.U Y ?_;have s6:=s3.bk 0 Y (show rZ l k=rZ l (k+1)from by rw[EO (by rw[hx];simpa using c2)]);exact aR (k+1) ⟨s6,by omega⟩
 refine .ar<|.Z Y<|.aB Y Y ?_;have s7:=s3.bk 0 Y (show rZ l k=aE l from by rw[show k=l.length by omega,KC]);exact s7
def Gi(v:Nat)(w:World)(hv:v<4294967296):
  CallsV prog 149 [(.int .u32 v)] w λ r w'=>r= .int .u32 (cR v 8:Nat)/\Sat w [] w':=by
 refine bY func149 Y λ hs0=>.Z Y<|.seq<|.Z Y<|.block<|.loop (α:=Nat×Nat) (λ(k,u)=>[(0,(.int .u32 u)),(3,(.int .i64 k))]) (λ(k,u) w'=>Sat w [] w'/\(k<=8)/\(u=cR v k)/\(u<4294967296)) (λ(k,u)=>8-k) (0,v) (wk Y) ⟨hs0,KB _,Y,hv⟩ ?_;rintro⟨k,u⟩ w1 ⟨s1,hk,hu,hub⟩;refine .seq<|.Z Y<|.ae Y (λ c1=>?_) λ c1=>?_
 ·refine .skip<|.seq<|.block<|.Z Y<|.ae Y (λ c2=>?_) λ c2=>?_
  ·refine .region<|.a 2 Y (.Fs (b:=2197175160) Y Y Y (by(try simp only[IntKind.bits]);omega) (by(try simp only[IntKind.bits]);omega))<|.Z Y<|.U Y ?_;exact aR (k+1,((u/2^1)^^^2197175160)) ⟨s1,by omega,by rw[cR,<-hu];simp[st1,c2],by have:=sY hub;simpa[st1,c2]using this⟩
  refine .U Y<|.U Y ?_;exact aR (k+1,(u/2^1)) ⟨s1,by omega,by rw[cR,<-hu];simp[st1,c2],by have:=sY hub;simpa[st1,c2]using this⟩
 refine .ar<|.Z Y<|.aB Y Y ?_;rw[show k=8 by omega]at hu;exact⟨by rw[hu],s1⟩
def K9(v:Value)(l:List Nat)(w:World)(hv:RdL w v (a8 .u8) l)(hb:∀ x∈l,x<256)(hn:l.length<=1000000000):
  CallsV prog 95 [v] w λ r w'=>r= .int .u32 (j0 l:Nat)/\Sat w [] w':=by
 refine bY func95 Y λ hs0=>.Z Y<|.Z Y<|.seq<|.h<|.ln 1 (hv.ext hs0.ext) Y<|.Z Y<|.block<|.lq [6,7] Y (α:=Nat×Nat) (λ(k,u)=>[(3,(.int .u32 u)),(8,(.int .i64 k))]) (λ(k,u) w'=>Sat w [] w'/\(k<=l.length)/\(u=zL (l.take k))/\(u<4294967296)) (λ(k,u)=>l.length-k) (0,4294967295) ⟨hs0,KB _,Y,by omega⟩ ?_;rintro⟨k,u⟩ w1 ⟨s1,hk,hu,hub⟩;refine .Z Y<|.seq<|.ae Y (λ c1=>?_) λ c1=>?_
 ·refine .skip<|.seq<|.block<|.seq ?_;obtain⟨x,hx⟩:∃ x,(l)[k]? =some x:=⟨_,py c1⟩;refine .region<|.ix 0 (hv.ext s1.ext) Y<|.le 0 (hv.ext s1.ext) hx Y<|.Z Y ?_;have hxb:=hb x (a7 hx);have haa:u^^^x<4294967296:=js hub (by omega);refine .region<|.a 3 Y (.Fs Y Y Y (by(try simp only[IntKind.bits]);omega) (by(try simp only[IntKind.bits]);omega))<|.cp 0 s1 (Gi ((u^^^x)) _ (haa)) Y λ _ s2=>.Z Y<|.U Y ?_;exact aR (k+1,(cR ((u^^^x)) 8)) ⟨s2,by omega,by rw[aj hx,pw,<-hu,yS],sZ haa 8⟩
 refine .ar<|.h<|.a 1 Y (.MP Y (by omega))<|.Z Y<|.aB Y Y ?_;rw[show k=l.length by omega,RD]at hu;exact⟨by rw[hu]<;>rfl,s1.pk []⟩
def kC(v:Value)(l:List Nat)(w:World)(hv:RdL w v (a8 .u8) l)(hb:∀ x∈l,x<256)(hn:l.length<=1000000000):
  CallsV prog 40 [v] w λ r w'=>Sat w [cL r 5 (a8 .u8) (aN l)] w':=by
 refine bY func40 Y λ hs0=>.Z Y<|.h<|.cp 1 hs0 (K9 _ (l) _ (hv.ext hs0.ext) (hb) (hn)) Y λ _ s1=>.Z Y<|.seq ?_;have hsl:=o7 hb;refine .region<|.z 1 Y ?_;have s2:=s1.az 5 (a8 .u8);refine .ap 0 s2 0 (hv.ext s2.ext) Y λ v1 _ s3 _=>.a 1 Y (.ik (by rw[underlying144]<;>rfl) underlying5 Y Y)<|.a 2 Y (.ik (by rw[underlying144]<;>rfl) underlying5 Y Y)<|.a 2 Y (.ik (by rw[underlying144]<;>rfl) underlying5 Y Y)<|.a 2 Y (.ik (by rw[underlying144]<;>rfl) underlying5 Y Y)<|.f Y (.iA (a8 .u8) [((j0 (l))%2^8),(((j0 (l))/2^8)%2^8),(((j0 (l))/2^16)%2^8),(((j0 (l))/2^24)%2^8)] ck Y ⟨Y,Y,Y,Y,trivial⟩ Y Y Y Y (by decide) (by decide) s3 λ v2 _ s4 _=>?_);refine .ap 0 s4 0 (s4.ah 1 Y) Y λ v3 _ s5 _=>?_;refine .Z Y<|.aB Y Y ?_;have s6:=(s5.pk [0]).pk [0];have s7:=s6.bk 0 Y (show l++[((j0 (l))%2^8),(((j0 (l))/2^8)%2^8),(((j0 (l))/2^16)%2^8),(((j0 (l))/2^24)%2^8)]=aN l from by simp[aN,o5]);exact s7
def AU(v:Value)(l:List Nat)(w:World)(hv:RdL w v (a8 .i64) l)(hn:l.length<=128)(hb:∀ x∈l,x<=2147483647):
  CallsV prog 266 [v] w λ r w'=>r= .int .i64 ((0:Nat):Int)/\Sat w [] w':=by
 refine bY func266 Y λ hs0=>.Z Y<|.seq<|.h<|.ln 1 (hv.ext hs0.ext) Y<|.Z Y<|.ao Y (AT (by omega))<|.skip<|.seq<|.h<|.ln 1 (hv.ext hs0.ext) Y<|.Z Y<|.block<|.lq [8,9] Y (α:=Nat) (λ k=>[(10,(.int .i64 k))]) (λ k w'=>Sat w [] w'/\(k<=l.length)) (λ k=>l.length-k) 0 ⟨hs0,KB _⟩ ?_;rintro k w1 ⟨s1,hk⟩;refine .Z Y<|.seq<|.ae Y (λ c1=>?_) λ c1=>?_
 ·refine .skip<|.seq<|.block<|.seq ?_;obtain⟨x,hx⟩:∃ x,(l)[k]? =some x:=⟨_,py c1⟩;refine .region<|.ix 0 (hv.ext s1.ext) Y<|.le 0 (hv.ext s1.ext) hx Y<|.Z Y<|.seq<|.bE 19 ((x<0)\/(2147483647<x)) ?_ ?_
  ·refine .z 3 Y<|.B 16 Y (λ g1=>?_) λ g1=>?_
   ·refine .M Y (by simp[g1])
   refine .M Y (by simp[g1])
  refine .ao Y (AT (by have:=hb x (a7 hx);omega))<|.skip<|.U Y ?_;exact aR (k+1) ⟨s1,by omega⟩
 refine .ar<|.Z Y<|.aB Y Y ?_;exact⟨Y,s1⟩
def oE(v:Value)(l:List Nat)(width:Nat)(w:World)(hv:RdL w v (a8 .i64) l)(hn:l.length<=4096)(hb:∀ x∈l,x<2^63)(hw:width<=31):
  CallsV prog 240 [v,(.int .i64 width)] w λ r w'=>Sat w [cL r 5 (a8 .u8) (iL width l)] w':=by
 refine bY func240 Y λ hs0=>.Z Y<|.Z Y<|.Z Y<|.Z Y<|.seq<|.h<|.ln 1 (hv.ext hs0.ext) Y<|.Z Y<|.block ?_;have s1:=hs0.az 4 (iV);have s2:=s1.az 5 (a8 .u8);refine .lq [0,1,12,13] Y (α:=Nat×Value×List Bool×Value×List Nat×Nat×Nat) (λ(k,wv,bits,ev,ex,c,b)=>[(5,wv),(6,ev),(7,(.int .i64 c)),(8,(.int .i64 ((((b:Nat):Int)-1)))),(14,(.int .i64 k))]) (λ(k,wv,bits,ev,ex,c,b) w'=>Sat w [cL wv 4 (iV) (bits),cL ev 5 (a8 .u8) (ex)] w'/\(k<=l.length)/\(df width (l.take k)=(k,bits,ex,c,b))/\(bits.length<=31*k)/\(ex.length<=20*k)/\(c<=k)/\(b<=k)) (λ(k,wv,bits,ev,ex,c,b)=>l.length-k) (0,(.slice none 0 0),[],(.slice none 0 0),[],0,0) ⟨s2,KB _,Y,by simp,by simp,KD _,KD _⟩ ?_;rintro⟨k,wv,bits,ev,ex,c,b⟩ w1 ⟨s3,hk,hst,hbl,hel,hcb,hbb⟩;refine .Z Y<|.seq<|.ae Y (λ c1=>?_) λ c1=>?_
 ·refine .skip<|.seq<|.block<|.seq ?_;obtain⟨x,hx⟩:∃ x,(l)[k]? =some x:=⟨_,py c1⟩;refine .region<|.ix 1 (hv.ext s3.ext) Y<|.le 0 (hv.ext s3.ext) hx Y<|.Z Y<|.seq ?_;have hx64:=hb x (a7 hx);have hxd:=SN x (2^width);have h8:=aC (k+1-b);have h9:=aC (x/2^width);refine .region<|.c 4 (n1 (x) (width) _ (by omega) (by omega)) Y λ r1 _ h_1=>?_;have s4:=s3.ax h_1;refine .ap 0 s4 0 (s4.ah 2 Y) Y (h1:=by(try simp only[sp,aH]);omega) (h2:=by(try simp only[sp,aH]);omega) λ v1 _ s5 _=>.Z Y<|.Z Y<|.ae Y (λ c2=>?_) λ c2=>?_
  ·refine .Z Y<|.h<|.a 3 Y (.ma Y Y (by omega) (by omega))<|.c 1 (cT ((k+1-b)) _ (by omega)) Y λ r2 _ h_2=>?_;have s6:=s5.ax h_2;refine .ap 0 s6 1 (s6.ah 3 Y) Y (h1:=by(try simp only[sp]);omega) (h2:=by(try simp only[sp]);omega) λ v2 _ s7 _=>.c 5 (cT ((x/2^width)) _ (by omega)) Y λ r3 _ h_3=>?_;have s8:=(s7.ax h_3).nn;refine .ap 0 s8 1 (s8.ah 4 Y) Y (h1:=by(try simp only[sp]);omega) (h2:=by(try simp only[sp]);omega) λ v3 _ s9 _=>?_;have s9d:Sat w [_,cL v3 5 (a8 .u8) (ex++uv ((k+1-b))++uv ((x/2^width))),_,_,cL r3 5 (a8 .u8) (uv ((x/2^width)))] _:=s9;refine .Z Y<|.U Y<|.trim [0,1,5,6,7,8,9,10,12,13,14] Y<|.U Y ?_;exact⟨(k+1,v1,bits++aT x width,v3,ex++uv ((k+1-b))++uv ((x/2^width)),(c+1),k+1),⟨Y,Y,Y,If some (If (Value.int .i64) (by omega)),Y,Y,Y,Y,Y,trivial⟩,⟨s9d.pk [0,1],by omega,by rw[aj hx,eJ,hst,dQ,No (Nat.pos_of_ne_zero c2),rY _ _ _ (KD _)],by simp only[sp,aH];omega,by have h8:=aC (k+1-b);have h9:=aC (x/2^width);(try simp only[sp]);omega,by omega,by omega⟩,by dsimp only;omega⟩
  refine .skip<|.U Y ?_;exact aR (k+1,v1,bits++aT x width,ev,ex,c,b) ⟨s5.pk [0,1],by omega,by rw[aj hx,eJ,hst,dQ,M2 (λ h=>c2 (Nat.ne_of_gt h)),rY _ _ _ (KD _)],by simp only[sp,aH];omega,by have h8:=aC (k+1-b);have h9:=aC (x/2^width);(try simp only[sp]);omega,by omega,by omega⟩
 refine .ar<|.seq ?_;have hpl:=aK bits;have h1:=aC l.length;have h2:=aC width;have h3:=aC c;refine .region<|.ln 1 (hv.ext s3.ext) Y<|.c 1 (cT (l.length) _ (by omega)) Y λ r4 _ h4=>?_;have s12:=s3.ax h4;refine .c 2 (cT (width) _ (by omega)) Y λ r5 _ h5=>?_;have s13:=s12.ax h5;refine .ap 0 s13 2 (s13.ah 3 Y) Y (h1:=by(try simp only[sp]);omega) (h2:=by(try simp only[sp]);omega) λ v_4 _ s14 _=>.Z Y<|.h<|.c 3 (cT (c) _ (by omega)) Y λ r6 _ h6=>?_;have s15:=(s14.ax h6).nn;refine .ap 0 s15 2 (s15.ah 4 Y) Y (h1:=by(try simp only[sp]);omega) (h2:=by(try simp only[sp]);omega) λ v5 _ s16 _=>.c 1 (rD _ (bits) _ (s16.ah 0 Y) (by omega)) Y λ r7 _ h7=>?_;have s17:=s16.ax h7;refine .ap 0 s17 2 (s17.ah 5 Y) Y (h1:=by(try simp only[sp]);omega) (h2:=by(try simp only[sp]);omega) λ v6 _ s18 _=>?_;have s18d:Sat w [_,_,cL v6 5 (a8 .u8) (uv (l.length)++uv (width)++uv (c)++aE (bits)),_,_,cL r7 5 (a8 .u8) (aE (bits))] _:=s18;refine .Z Y<|.h<|.ap 2 s18d 2 (s18d.ah 1 Y) Y (h1:=by(try simp only[sp]);omega) (h2:=by(try simp only[sp]);omega) λ v7 _ s19 _=>.Z Y<|.aB Y Y ?_;have s21:=(s19.pk [2]).bk 0 Y (show uv (l.length)++uv (width)++uv (c)++aE (bits)++ex=iL width l from by unfold iL;rw[show df width l=(k,bits,ex,c,b) by rw[<-hst,show k=l.length by omega,RD]]);exact s21
def Ee(v:Value)(l:List Nat)(w:World)(hv:RdL w v (a8 .i64) l)(hn:l.length<=128)(hb:∀ x∈l,x<=2147483647):
  CallsV prog 241 [v] w λ r w'=>r= .int .i64 ((dr l 32:Nat):Int)/\Sat w [] w':=by
 refine bY func241 Y λ hs0=>.seq ?_;have hb63:∀ x∈l,x<2^63:=λ x hx=>by have:=hb x hx;omega
 refine .U Y<|.seq<|.h<|.cp 1 hs0 (AU _ (l) _ (hv.ext hs0.ext) (hn) (hb)) Y λ _ s1=>.Z Y<|.ao Y (Y)<|.skip<|.Z Y<|.seq<|.Z Y<|.block<|.lq [0] Y (α:=Nat×Nat) (λ(m,bw)=>[(3,(.int .i64 bw)),(4,(.int .i64 m))]) (λ(m,bw) w'=>Sat w [] w'/\(1<=m)/\(m<=32)/\(bw=dr l m)/\(bw<=31)) (λ(m,bw)=>32-m) (1,0) ⟨s1,KD _,by omega,by simp[dr],by omega⟩ ?_;rintro⟨m,bw⟩ w2 ⟨s2,hm1,hm,hbw,hbl⟩;refine .seq<|.Z Y<|.ae Y (λ c1=>?_) λ c1=>?_
 ·refine .skip<|.seq<|.block<|.h<|.c 2 (oE _ (l) (m) _ (hv.ext s2.ext) (by omega) (hb63) (by omega)) Y λ r2 _ h2=>?_;have s3:=s2.ax h2;refine .ln 0 (s3.ah 0 Y) Y<|.c 2 (oE _ (l) (bw) _ (hv.ext s3.ext) (by omega) (hb63) (by omega)) Y λ r3 _ h3=>?_;have s4:=(s3.ax h3).nn;refine .ln 0 (s4.ah 1 Y) Y<|.Z Y<|.ae Y (λ c2=>?_) λ c2=>?_
  ·refine .U Y<|.U Y ?_;exact aR (m+1,m) ⟨s4.pk [],by omega,by omega,by rw[dr,<-hbw,lK (by omega) (by omega) hb63,lK (by omega) (by omega) hb63,No c2],by omega⟩
  refine .skip<|.U Y ?_;exact aR (m+1,bw) ⟨s4.pk [],by omega,by omega,by rw[dr,<-hbw,lK (by omega) (by omega) hb63,lK (by omega) (by omega) hb63,M2 c2],by omega⟩
 refine .ar<|.Z Y<|.aB Y Y ?_;rw[show m=32 by omega]at hbw;exact⟨by rw[hbw],s2⟩
def Ef(v:Value)(l:List Nat)(w:World)(hv:RdL w v (a8 .i64) l)(hn:l.length<=128)(hb:∀ x∈l,x<=2147483647):
  CallsV prog 203 [v] w λ r w'=>Sat w [cL r 5 (a8 .u8) (bH l)] w':=by
 refine bY func203 Y λ hs0=>.seq ?_;have hb63:∀ x∈l,x<2^63:=λ x hx=>by have:=hb x hx;omega
 refine .U Y<|.h<|.cp 2 hs0 (Ee _ (l) _ (hv.ext hs0.ext) (hn) (hb)) Y λ _ s1=>.c 0 (oE _ (l) ((dr l 32)) _ (hv.ext s1.ext) (by omega) (hb63) (by have:=ic l 32;omega)) Y λ r2 _ h2=>?_;have s2:=s1.ax h2;refine .Z Y<|.aB Y Y ?_;exact s2
end Go.Proofs.YthffkcnbdehceaaGreat
namespace Go.Kw
def kD{L:List Nat}(h:L.Pairwise (· < ·))(k:Nat):L.filter (λ x=>decide (x<k+1))=L.filter (λ x=>decide (x<k))++(if k∈L then[k]else[]):=by
 induction L with
 |nil=>simp
 |cons a L ih=>
  have hp:=Sb.1 h;have ih:=ih hp.2;rcases U5 a k with hk|hk|hk
  ·rw[T3 (by simp;omega),T3 (by simpa using hk),ih];simp[show¬ k=a by omega]
  ·subst hk;have e:∀ j,j<=a+1->L.filter (λ x=>decide (x<j))=[]:=λ j hj=>SR.2 λ x hx=>by have:=hp.1 x hx;simp;omega
   rw[T3 (by simp),TA (by simp),e _ (KD _),e a (by omega)];simp
  ·have e:∀ j,j<=k+1->L.filter (λ x=>decide (x<j))=[]:=λ j hj=>SR.2 λ x hx=>by have:=hp.1 x hx;simp;omega
   have hn:k∉L:=λ hm=>by have:=hp.1 k hm;omega
   rw[TA (by simp;omega),TA (by simp;omega),e _ (KD _),e k (by omega),M2 (by simp[hn];omega)];rfl
def Gj(l:List Nat)(n:Nat):(mg l n).Pairwise (· < ·):=by
 have h:=bg (key:=ak l) (bz 0 l) n;have e:mg l n=(bz 0 l).filter λ x=>ak l x==n:=h.symm;rw[e];exact V8 filter_sublist (lS l 0)
def Cb{l:List Nat}{n k:Nat}(hn:0<n):k∈mg l n↔ak l k=n:=by
 constructor
 ·exact lT
 ·intro h;exact Tp.2 ⟨iZ l k (by omega),by simpa using h⟩
def kE(l:List Nat)(n k:Nat):List Nat:=low l n++(mg l n).filter λ x=>decide (x<k)
def Eg{l:List Nat}{n k x:Nat}(hn:0<n)(hx:l[k]? =some x)(h:x≠n):kE l n (k+1)=kE l n k:=by
 have e:ak l k=x:=by simp[ak,KP,hx]
 rw[kE,kE,kD (Gj l n),M2 (by rw[Cb hn,e];exact h),SO]
def uI{l:List Nat}{n k:Nat}(hn:0<n)(hx:l[k]? =some n):kE l n (k+1)=kE l n k++[k]:=by
 have e:ak l k=n:=by simp[ak,KP,hx]
 rw[kE,kE,kD (Gj l n),No (by rw[Cb hn,e]),KV]
def oF(l:List Nat)(n:Nat):kE l n 0=low l n:=by simp[kE]
def Eh(l:List Nat)(n:Nat):kE l n l.length=kE l (n+1) 0:=by
 rw[oF,kE,Tt.2 λ x hx=>by have:=je l x (Tp.1 hx).1;simpa using this.1]
 conv=>rhs;rw[low,iI l n]
 rw[Te,Te,Tt.2,Tt.2,SR.2,SO]
 ·intro x hx;have:=(Tp.1 hx).2;simp at this⊢;omega
 ·intro x hx;have:=lT hx;simp;omega
 ·intro x hx;have:=(Tp.1 hx).2;simp at this⊢;omega
def AV(l:List Nat):kE l 1 0=[]:=by
 rw[oF,low];exact SR.2 λ x hx=>by have:=(je l x hx).2;simp;omega
def Ei{l:List Nat}(h:∀ i,ak l i<=15):kE l 16 0=b8 l:=by
 rw[oF,low];exact Tt.2 λ x _=>by have:=h x;simp;omega
def wI{l cds:List Nat}{gm code bef i:Nat}(h0:gm=0)(h1:code=0):gi l (gm,code,bef,cds) i=(gm+1,0,ak l i,cds.set i 0):=by subst h0 h1;rfl
def yi{l cds:List Nat}{gm code bef i:Nat}(h:gm≠0):gi l (gm,code,bef,cds) i=(gm+1,(code+1)%2^64*2^(ak l i-bef)%2^64,ak l i,cds.set i ((code+1)%2^64*2^(ak l i-bef)%2^64)):=by
 have hp:0<gm:=by omega
 simp only[gi,hp,TJ]
end Go.Kw
namespace Go.Proofs.YthffkcnbdehceaaGreat
open Go.RowKit Go.Kw
def AW(v:Value)(c:List Nat)(w:World)(hv:RdL w v (a8 .i64) c)(hn:c.length<=1024)(hc:∀ x∈c,x<=4096):
  CallsV prog 237 [v,(.int .i64 (15:Nat))] w λ r w'=>r= .int .i64 ((0:Nat):Int)/\Sat w [] w':=by
 refine bY func237 Y λ hs0=>.Z Y<|.seq<|.seq<|.bE 13 ((15<1)\/(15<15)) ?_ ?_
 ·refine .M Y (by simp[])
 refine .ao Y (AT (by omega))<|.skip<|.seq<|.h<|.ln 1 (hv.ext hs0.ext) Y<|.Z Y<|.ao Y (AT (by omega))<|.skip<|.Z Y<|.seq<|.h<|.ln 1 (hv.ext hs0.ext) Y<|.Z Y<|.block<|.lq [1,17,18] Y (α:=Nat×Nat) (λ(k,p)=>[(5,(.int .i64 p)),(19,(.int .i64 k))]) (λ(k,p) w'=>Sat w [] w'/\(k<=c.length)/\(p<=k)) (λ(k,p)=>c.length-k) (0,0) ⟨hs0,KB _,KD _⟩ ?_;rintro⟨k,p⟩ w1 ⟨s1,hk,hp⟩;refine .Z Y<|.seq<|.ae Y (λ c1=>?_) λ c1=>?_
 ·refine .skip<|.seq<|.block<|.seq ?_;obtain⟨x,hx⟩:∃ x,(c)[k]? =some x:=⟨_,py c1⟩;refine .region<|.ix 0 (hv.ext s1.ext) Y<|.le 0 (hv.ext s1.ext) hx Y<|.Z Y<|.seq<|.seq<|.bE 28 ((x<0)\/(4096<x)) ?_ ?_
  ·refine .z 3 Y<|.B 25 Y (λ g1=>?_) λ g1=>?_
   ·refine .M Y (by simp[g1])
   refine .M Y (by simp[g1])
  refine .ao Y (AT (by have:=hc x (a7 hx);omega))<|.skip<|.Z Y<|.ae Y (λ c2=>?_) λ c2=>?_
  ·refine .U Y<|.U Y ?_;exact aR (k+1,(p+1)) ⟨s1,by omega,by omega⟩
  refine .skip<|.U Y ?_;exact aR (k+1,p) ⟨s1,by omega,by omega⟩
 refine .ar<|.seq<|.h<|.a 3 Y (.J2 (a:=1) (b:=15) Y Y (by omega) (by omega))<|.Z Y<|.ao Y (AT (by omega))<|.skip<|.Z Y<|.aB Y Y ?_;exact⟨Y,s1⟩
def Ej(v:Value)(l:List Nat)(w:World)(hv:RdL w v (a8 .i64) l)(hn:l.length<=1024):
  CallsV prog 265 [v] w λ r w'=>r= .bool (dM l)/\Sat w [] w':=by
 refine bY func265 Y λ hs0=>.Z Y<|.seq<|.h<|.ln 1 (hv.ext hs0.ext) Y<|.Z Y<|.ao Y (AT (by omega))<|.skip<|.Z Y<|.seq<|.h<|.ln 1 (hv.ext hs0.ext) Y<|.Z Y<|.block<|.lq [9,10] Y (α:=Nat×Nat) (λ(k,s)=>[(3,(.int .i64 s)),(11,(.int .i64 k))]) (λ(k,s) w'=>Sat w [] w'/\(k<=l.length)/\(s=iW (l.take k))/\(s<=k*2^14)/\(∀ x∈l.take k,x<=15)) (λ(k,s)=>l.length-k) (0,0) ⟨hs0,KB _,Y,KB _,by simp⟩ ?_;rintro⟨k,s⟩ w1 ⟨s1,hk,hsum,hsb,hall⟩;refine .Z Y<|.seq<|.ae Y (λ c1=>?_) λ c1=>?_
 ·refine .skip<|.seq<|.block<|.seq ?_;obtain⟨x,hx⟩:∃ x,(l)[k]? =some x:=⟨_,py c1⟩;refine .region<|.ix 0 (hv.ext s1.ext) Y<|.le 0 (hv.ext s1.ext) hx Y<|.Z Y<|.seq<|.seq<|.bE 20 ((x<0)\/(15<x)) ?_ ?_
  ·refine .z 3 Y<|.B 17 Y (λ g1=>?_) λ g1=>?_
   ·refine .M Y (by simp[g1])
   refine .M Y (by simp[g1])
  refine .ae Y (λ c2=>?_) λ c2=>?_
  ·refine .Z Y<|.aB Y Y ?_;exact⟨by rw[sB (a7 hx) (by omega)],s1⟩
  refine .skip<|.Z Y<|.ae Y (λ c3=>?_) λ c3=>?_
  ·have h2:2^(15-x)<=2^14:=Sc (by decide) (by omega);refine .region<|.a 4 Y (.J2 (a:=1) Y Y (by omega) (by omega))<|.Z Y<|.U Y ?_;exact aR (k+1,(s+(1*2^(15-x)))) ⟨s1,by omega,by rw[aj hx,fR,<-hsum];simp[iW,kr,c3],by omega,all_take hall hx (by omega)⟩
  refine .skip<|.U Y ?_;exact aR (k+1,s) ⟨s1,by omega,by rw[aj hx,fR,<-hsum];simp[iW,kr,c3],by omega,all_take hall hx (by omega)⟩
 refine .ar<|.Z Y<|.aB Y Y ?_;rw[show k=l.length by omega,RD]at hsum hall;exact⟨by rw[vq hall,hsum],s1⟩
def Ek(v:Value)(l:List Nat)(w:World)(hv:RdL w v (a8 .i64) l)(hn:l.length<=1024)(hval:dM l=true):
  CallsV prog 239 [v] w λ r w'=>∃ v',r= .tuple #[v',.int .i64 ((0:Nat):Int)]/\Sat w [cL v' 132 (a8 .u64) (cN l)] w':=by
 refine bY func239 Y λ hs0=>.seq ?_;have hb:=gM hval;refine .U Y<|.seq<|.h<|.cp 1 hs0 (Ej _ (l) _ (hv.ext hs0.ext) (hn)) Y λ _ s1=>.e Y (.cJ Y)<|.nil<|.ao Y (by rw[hval]<;>rfl)<|.skip<|.h<|.ln 1 (hv.ext s1.ext) Y<|.f Y (.cQ (a8 .u64) (0) IS Y s1 Y Y (by omega) (by omega) (by omega) λ v1 _ s2 _=>?_);refine .Z Y<|.Z Y<|.seq<|.Z Y<|.block<|.lq [0,4] Y (α:=Nat×Nat×Nat×List Nat×Nat) (λ(n,code0,bef0,cds0,cnt0)=>[(5,(.int .u64 code0)),(6,(.int .i64 bef0)),(7,(.int .i64 n))]) (λ(n,code0,bef0,cds0,cnt0) w'=>Sat w [cL v1 132 (a8 .u64) (cds0)] w'/\(1<=n)/\(n<=16)/\(eI l (kE l n 0)=(cnt0,code0,bef0,cds0))/\(code0<2^64)/\(cds0.length=l.length)/\(bef0<n)/\(bef0=0↔cnt0=0)/\(cnt0=0->code0=0)) (λ(n,code0,bef0,cds0,cnt0)=>16-n) (1,0,0,List.replicate l.length 0,0) ⟨s2,KD _,by omega,by rw[AV]<;>rfl,by omega,by simp,by omega,by omega,λ _=>Y⟩ ?_;rintro⟨n,code0,bef0,cds0,cnt0⟩ w3 ⟨s3,h1n,hn16,hst0,hcd0,hcl0,hbn0,h0c0,h0d0⟩;refine .seq<|.Z Y<|.ae Y (λ c1=>?_) λ c1=>?_
 ·refine .skip<|.seq<|.block<|.h<|.ln 1 (hv.ext s3.ext) Y<|.Z Y<|.block<|.lq [0,4,7,20,21] Y (α:=Nat×Nat×Nat×List Nat×Nat) (λ(k,code,bef,cds,gm)=>[(5,(.int .u64 code)),(6,(.int .i64 bef)),(22,(.int .i64 k))]) (λ(k,code,bef,cds,gm) w'=>Sat w [cL v1 132 (a8 .u64) (cds)] w'/\(k<=l.length)/\(eI l (kE l n k)=(gm,code,bef,cds))/\(code<2^64)/\(cds.length=l.length)/\(bef<=n)/\(bef=0↔gm=0)/\(gm=0->code=0)) (λ(k,code,bef,cds,gm)=>l.length-k) (0,code0,bef0,cds0,cnt0) ⟨s3,KB _,hst0,hcd0,hcl0,by omega,h0c0,h0d0⟩ ?_;rintro⟨k,code,bef,cds,gm⟩ w4 ⟨s4,hk,hst,hcd,hcl,hbn,h0c,h0d⟩;refine .Z Y<|.seq<|.ae Y (λ c2=>?_) λ c2=>?_
  ·refine .skip<|.seq<|.block<|.seq ?_;obtain⟨x,hx⟩:∃ x,(l)[k]? =some x:=⟨_,py c2⟩;refine .region<|.ix 1 (hv.ext s4.ext) Y<|.le 0 (hv.ext s4.ext) hx Y<|.Z Y<|.seq<|.Z Y<|.ae Y (λ c3=>?_) λ c3=>?_
   ·refine .ar<|.U Y ?_;exact aR (k+1,code,bef,cds,gm) ⟨s4,by omega,by rw[Eg h1n hx (by simpa using c3)];exact hst,hcd,hcl,hbn,h0c,h0d⟩
   refine .skip<|.seq<|.seq ?_;have hxn:x=n:=SM λ h=>c3 h;have hlk:ak l k=n:=by simp[ak,KP,hx,hxn]
   refine .U Y<|.ae Y (λ c4=>?_) λ c4=>?_
   ·refine .U Y<|.region<|.ix 4 (s4.ah 0 Y) Y<|.f Y (.dj (a:=0) 0 tB s4 Y Y Y Y (by omega) λ _ s5 _=>?_);have s5:=s5.nn;refine .Z Y<|.U Y ?_;exact aR (k+1,0,n,cds.set k 0,gm+1) ⟨s5,by omega,by rw[uI h1n (by rw[hx,hxn]),ef,hst,wI (h0c.1 c4) (h0d (h0c.1 c4)),hlk],by omega,by simp only[Ro];exact hcl,KD _,by omega,by omega⟩
   refine .region<|.a 1 Y (.M8 (b:=1) Y Y Y)<|.Z Y<|.region<|.ix 4 (s4.ah 0 Y) Y<|.f Y (.dj (a:=(((code+1)%2^64)*2^(n-bef)%2^64)) 0 tB s4 Y Y Y Y (by omega) λ _ s6 _=>?_);have s6:=s6.nn;refine .Z Y<|.U Y ?_;exact aR (k+1,(((code+1)%2^64)*2^(n-bef)%2^64),n,cds.set k (((code+1)%2^64)*2^(n-bef)%2^64),gm+1) ⟨s6,by omega,by rw[uI h1n (by rw[hx,hxn]),ef,hst,yi (λ h=>c4 (h0c.2 h)),hlk],by omega,by simp only[Ro];exact hcl,KD _,by omega,by omega⟩
  refine .ar<|.U Y ?_;exact aR (n+1,code,bef,cds,gm) ⟨s4,by omega,by omega,by rw[<-Eh,<-hst,show k=l.length by omega],hcd,hcl,by omega,h0c,h0d⟩
 refine .ar<|.Z Y<|.bP Y Y Y ?_;have s8:=(s3.pk [0]).bk 0 Y (show cds0=cN l from by unfold cN;rw[<-Ei (λ i=>vz hb i),show 16=n by omega,hst0]);exact⟨_,Y,s8⟩
def yj(v u:Value)(l syms:List Nat)(w:World)(hv:RdL w v (a8 .i64) l)(hu:RdL w u (a8 .i64) syms)(hn:l.length<=1024)(hval:dM l=true)(hsn:syms.length<=4096)(hsy:∀ s∈syms,s<l.length/\0<ak l s):
  CallsV prog 202 [v,u] w λ r w'=>∃ v',r= .tuple #[v',.int .i64 ((bZ l syms).length:Int),.int .i64 ((0:Nat):Int)]/\Sat w [cL v' 5 (a8 .u8) (aE (bZ l syms))] w':=by
 refine bY func202 Y λ hs0=>.seq ?_;have hgl:=GoodLens.lh hval;refine .U Y<|.h<|.c 1 (Ek _ (l) _ (hv.ext hs0.ext) (hn) (hval)) Y λ r1 _ h1=>?_;obtain⟨cv1,rfl,p1⟩:=h1;have s1:=hs0.ax p1;refine .Z Y<|.seq<|.Z Y<|.ao Y (AT (by omega))<|.skip<|.seq<|.h<|.ln 1 (hu.ext s1.ext) Y<|.Z Y<|.ao Y (AT (by omega))<|.skip<|.Z Y<|.seq<|.h<|.ln 1 (hu.ext s1.ext) Y<|.Z Y<|.block ?_;have s2:=s1.az 4 (iV);refine .lq [0,7,23,24] Y (α:=Nat×Value×List Bool) (λ(k,wv,bits)=>[(9,wv),(25,(.int .i64 k))]) (λ(k,wv,bits) w'=>Sat w (s2.U [(1,cL wv 4 (iV) (bits))]) w'/\(k<=syms.length)/\(bits=bZ l (syms.take k))/\(bits.length<=15*k)) (λ(k,wv,bits)=>syms.length-k) (0,(.slice none 0 0),[]) ⟨s2,KB _,Y,KD _⟩ ?_;rintro⟨k,wv,bits⟩ w2 ⟨s3,hk,hbits,hbl⟩;refine .Z Y<|.seq<|.ae Y (λ c1=>?_) λ c1=>?_
 ·refine .skip<|.seq<|.block<|.seq ?_;obtain⟨x,hx⟩:∃ x,(syms)[k]? =some x:=⟨_,py c1⟩;refine .region<|.ix 0 (hu.ext s3.ext) Y<|.le 0 (hu.ext s3.ext) hx Y<|.Z Y<|.seq<|.seq ?_;have hx0:=hsy x (a7 hx);have hlx:=l0 hx0.1;have hcdx:=(lU hgl hx0.2).2;have hl15:=hgl.le x;have hp15:2^ak l x<=2^15:=Sc (by decide) hl15;have hcl:=iX l;refine .region<|.z 3 Y<|.Gf 31 Y (AT (by omega))<|.ln 2 (hv.ext s3.ext) Y<|.z 3 Y<|.Gf 37 Y (AT (by omega))<|.ix 2 (hv.ext s3.ext) Y (hj:=hx0.1)<|.le 0 (hv.ext s3.ext) hlx Y<|.Z Y<|.ao Y (AT (by omega))<|.skip ?_;have hshp1:=(s3.ah (E:=iV) 1 Y).iR (by decide);refine .dk [0] s3 Y (pl [0,1,2,3,4,5,6,7,8,1009,1010,11] .fin) λ s4 S1=>.ix 3 S1 (·.ah 0 Y) Y<|.le 0 S1 (·.ah 0 Y) (lU hgl hx0.2).1 Y<|.ix 2 S1 (hv.ext ·.ext) Y (hj:=hx0.1)<|.le 0 S1 (hv.ext ·.ext) hlx Y<|.c 0 S1 (n1 ((cA l x)) ((ak l x)) _ (by omega) (by omega)) Y λ r2 _ h2=>?_;have s5:=s4.ax h2;have S2:=s5.pk [0];refine⟨S2,?_⟩;refine .f Y (.aD 1 ql s5 Y Y Y underlying183 (s5.ah 2 Y) (by simp only[sp,aH];omega) (by simp only[sp,aH];omega) λ v1 _ s6 _=>?_);have S3:=s6.pk [0];refine⟨S3,?_⟩;refine .Z S3 Y<|.U Y ?_;exact aR (k+1,v1,bits++aT (cA l x) (ak l x)) ⟨s6.pk [0,1],by omega,by rw[aj hx,vA,hbits],by simp only[sp,aH];omega⟩
 refine .ar<|.h<|.c 1 (rD _ (bits) _ (s3.ah 1 Y) (by omega)) Y λ r3 _ h3=>?_;have s8:=s3.ax h3;refine .ln 1 (s8.ah 1 Y) Y<|.Z Y<|.ret ?_;show aM _ _ _ _ _ _;refine iG Y Y Y Y ?_;have hkl:bits=bZ l syms:=by rw[hbits,show k=syms.length by omega,RD]
 subst hkl;exact⟨_,Y,s8.pk [2]⟩
end Go.Proofs.YthffkcnbdehceaaGreat
namespace Go.Kw
open Go.RowKit
structure RI where
 w:Nat
 leaf:Bool
 sv:SV
 occ:List Nat
def ba:Enc RI:=⟨3,λ x=>[.int .i64 (x.w:Int),.bool x.leaf,x.sv.val],λ _=>Y,λ x u h=>by simp at h;rcases h with rfl|rfl|rfl<;>rfl⟩
def ej(ps:List RI):Chunk:=kq (ps.map λ p=>cL p.sv.val 3 (a8 .i64) p.occ)
section
variable {w0 w:World} {cs:List Chunk}
def Sat.M0(h:Sat w0 cs w):Sat w0 (cs++[ej []]) w:=by
 have:Sat w0 (cs++kq []::[]) w:=Sat.gK.2 (by simpa using h);exact this
def Sat.tG{A:List Chunk}{s:SV}{n:Nat}{b:Bool}{l:List Nat}{ps:List RI}(h:Sat w0 (A++[cL s.val 3 (a8 .i64) l]) w)(i:Nat)(hi:A[i]? =some (ej ps)):Sat w0 (A.set i (ej (ps++[⟨n,b,s,l⟩]))) w:=by
 have:=h.push i hi;rw[ej,Si];exact this
def Sat.j4(h:Sat w0 cs w)(i:Nat){ps:List RI}(hi:cs[i]? =some (ej ps)):∀ p∈ps,RdL w p.sv.val (a8 .i64) p.occ:=λ p hp=>
 Rd.pM ((h.get hi).1 (cL p.sv.val 3 (a8 .i64) p.occ) (Su hp))
end
def P4(x y:RI):Bool:=decide (x.w<=y.w)
def gu(a b:List RI):List RI:=a.merge b P4
def kF{α:Type}{l:List α}{k:Nat}{x:α}(h:l[k]? =some x):l.drop k=x::l.drop (k+1):=by
 obtain⟨hk,rfl⟩:=IN.1 h;exact SP hk
def El{a b:List RI}{i k:Nat}{x y:RI}(hx:a[i]? =some x)(hy:b[k]? =some y)(h:x.w<=y.w):gu (a.drop i) (b.drop k)=x::gu (a.drop (i+1)) (b.drop k):=by
 have e:P4 x y=true:=Rr h;rw[gu,gu,kF hx,kF hy,cons_merge_cons_pos (h:=e)]
def rE{a b:List RI}{i k:Nat}{y:RI}(hy:b[k]? =some y)(h:∀ x,a[i]? =some x->¬ x.w<=y.w):gu (a.drop i) (b.drop k)=y::gu (a.drop i) (b.drop (k+1)):=by
 cases hx:a[i]? with
 |none=>
  have:a.drop i=[]:=SF (by simpa using hx);rw[this,kF hy];simp[gu]
 |some x=>
  have e:¬ P4 x y=true:=by have:=h x hx;simp[P4];omega
  rw[gu,gu,kF hx,kF hy,cons_merge_cons_neg (h:=e)]
def Gk(a:List RI):gu a []=a:=by simp[gu]
def Gl{a b:List RI}{x:RI}:x∈gu a b↔x∈a\/x∈b:=by rw[gu,(merge_perm_append P4).mem_iff,RE]
end Go.Kw
namespace Go.Proofs.YthffkcnbdehceaaGreat
open Go.RowKit Go.Kw
def Em(v u:Value)(a b:List RI)(w:World)(hv:RdL w v ba a)(hu:RdL w u ba b)(hn:a.length<=4096)(hm:b.length<=4096):
  CallsV prog 238 [v,u] w λ r w'=>Sat w [cL r 302 ba (gu a b)] w':=by
 refine bY func238 Y λ hs0=>.Z Y<|.Z Y<|.Z Y<|.seq<|.h<|.ln 1 (hu.ext hs0.ext) Y<|.Z Y<|.block ?_;have s1:=hs0.az 302 (ba);refine .lq [0,9,10] Y (α:=Nat×Nat×Value×List RI) (λ(k,i,ov,out)=>[(5,ov),(6,(.int .i64 i)),(11,(.int .i64 k))]) (λ(k,i,ov,out) w'=>Sat w [cL ov 302 (ba) (out)] w'/\(k<=b.length)/\(i<=a.length)/\(out++gu (a.drop i) (b.drop k)=gu a b)/\(out.length=i+k)) (λ(k,i,ov,out)=>b.length-k) (0,0,(.slice none 0 0),[]) ⟨s1,KB _,KB _,Y,Y⟩ ?_;rintro⟨k,i,ov,out⟩ w1 ⟨s2,hk,hi,hout,hol⟩;refine .Z Y<|.seq<|.ae Y (λ c1=>?_) λ c1=>?_
 ·refine .skip<|.seq<|.block<|.seq ?_;obtain⟨x,hx⟩:∃ x,(b)[k]? =some x:=⟨_,py c1⟩;refine .region<|.ix 0 (hu.ext s2.ext) Y<|.lg 0 (hu.ext s2.ext) hx Y<|.al 0 s2 Y λ b1 _ s3 _ _=>.sa 0 s3 1 Y ((ba).one _) λ _ s4 _=>.nil<|.seq<|.block<|.lq [0,8,9,10,11] Y (α:=Nat×Value×List RI) (λ(i,ov,out)=>[(5,ov),(6,(.int .i64 i))]) (λ(i,ov,out) w'=>Sat w (s4.U [(0,cL ov 302 (ba) (out))]) w'/\(i<=a.length)/\(out++gu (a.drop i) (b.drop k)=gu a b)/\(out.length=i+k)) (λ(i,ov,out)=>a.length-i) (i,ov,out) ⟨s4,hi,hout,hol⟩ ?_;rintro⟨i,ov,out⟩ w4 ⟨s5,hi,hout,hol⟩;refine .seq<|.seq ?_;rcases RG i a.length with hw|hw
  ·obtain⟨y,hy⟩:∃ y,(a)[i]? =some y:=⟨_,py (hw)⟩;refine .dk [0,1] s5 Y (pl [0,1,2,3,4,5,6,7,8,9,10,11,12,13] .fin) λ s6 S1=>.ln 2 S1 (hv.ext ·.ext) Y<|.z 2 S1 Y<|.Gt 19 Y (Rr hw)<|.ix 2 S1 (hv.ext ·.ext) Y<|.fl 0 S1 (hv.ext ·.ext) Y<|.lf 0 S1 (hv.ext ·.ext) hy Y<|.ld 1 S1 1 Y<|.Z S1 Y<|.ae Y (λ c2=>?_) λ c2=>?_
   ·refine .skip<|.block<|.h<|.ix 3 (hv.ext s6.ext) Y<|.lg 0 (hv.ext s6.ext) hy Y<|.f Y (.cn (ba) y dR (by decide) (by decide) s6 Y λ v1 _ s7 _=>?_);have s7:=s7.nn;refine .ap 0 s7 0 (s7.ah 2 Y) Y (h1:=by(try simp only[sp]);simp;omega) (h2:=by(try simp only[sp]);simp;omega) λ v2 _ s8 _=>?_;refine .Z Y<|.U Y ?_;have s9:=(s8.pk [0,1]).pk [0,1];exact aR (i+1,v2,out++[y]) ⟨s9,by omega,by rw[<-hout,El hy hx c2];simp,by simp;omega⟩
   refine .ar ?_;have hge:∀ z,a[i]? =some z->¬ z.w<=x.w:=λ z hz=>by rw[hy]at hz;cases hz;exact c2
   refine .region<|.lo 1 s6 1 Y<|.f Y (.cn (ba) x dR (by decide) (by decide) s6 Y λ v3 _ s10 _=>?_);have s10:=s10.nn;refine .ap 0 s10 0 (s10.ah 2 Y) Y (h1:=by(try simp only[sp]);simp;omega) (h2:=by(try simp only[sp]);simp;omega) λ v_4 _ s11 _=>?_;refine .Z Y<|.U Y ?_;have s12:=(s11.pk [0,1]).pk [0];exact aR (k+1,i,v_4,out++[x]) ⟨s12,by omega,hi,by rw[<-hout,rE hx hge];simp,by simp;omega⟩
  refine .dk [0,1] s5 Y (pl [0,1,2,3,4,5,6,7,8,9,10,11,12,13] .fin) λ s13 S2=>.ln 2 S2 (hv.ext ·.ext) Y<|.z 2 S2 Y<|.Gf 19 Y (AT (by omega))<|.Z S2 Y<|.ao Y (Y)<|.ar ?_;have hge:∀ z,a[i]? =some z->¬ z.w<=x.w:=λ z hz=>by have:=aL hz;omega
  refine .region<|.lo 1 s13 1 Y<|.f Y (.cn (ba) x dR (by decide) (by decide) s13 Y λ v5 _ s14 _=>?_);have s14:=s14.nn;refine .ap 0 s14 0 (s14.ah 2 Y) Y (h1:=by(try simp only[sp]);simp;omega) (h2:=by(try simp only[sp]);simp;omega) λ v6 _ s15 _=>?_;refine .Z Y<|.U Y ?_;have s16:=(s15.pk [0,1]).pk [0];exact aR (k+1,i,v6,out++[x]) ⟨s16,by omega,hi,by rw[<-hout,rE hx hge];simp,by simp;omega⟩
 refine .ar<|.h<|.a 3 Y (.b9 (E:=ba) (a:=i) (c:=(a).length) dR Y (hv.ext s2.ext) ⟨_,Y⟩ Y (by omega) (KD _))<|.ap 0 s2 0 (((hv.ext s2.ext)).sub (a:=i) (b:=(a).length) (by omega) (KD _)) Y λ v7 _ s17 _=>.Z Y<|.aB Y Y ?_;have s19:=(s17.pk [0]).bk 0 Y (show out++((a).take ((a).length)).drop i=gu a b from by rw[<-hout,show k=b.length by omega,UG,Gk];simp);exact s19
