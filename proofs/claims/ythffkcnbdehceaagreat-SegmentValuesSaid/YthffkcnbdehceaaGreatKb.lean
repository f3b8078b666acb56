/-
 KB:a block with two arrays of sixteen and a number:the codes,the rows of symbols,the longest length;a row taken out of rows and put back. Our own text;it names no program.
-/
import Derived.Test.YthffkcnbdehceaaGreatKm
import Derived.Lib.SplitLaws
import Derived.Lib.AtoiAll
import Derived.Lib.ItoaNum
import Derived.Lib.ConvBytes
import Derived.Lib.AtoiErrMem
import Derived.Lib.Builder
import Derived.Laws.StructEq
import Derived.Lib.LaidTab
import Derived.Lib.Join
import Derived.Lib.AppendIntMem
import Derived.Laws.Externs
set_option linter.all false
open Go.Proofs.YthffkcnbdehceaaGreat
open List
namespace Go.Kw
open Go.RowKit
def ga(b T:Nat)(F:List Nat)(S:List (SV×List Nat))(lo:Nat):Chunk:=aq b T ((a8 .u64).all F++(bu Nat).all S++[.int .i64 (lo:Int)])
def Qz(F:List Nat){j x:Nat}(h:F[j]? =some x):((a8 .u64).all F)[j]? =some (.int .u64 (x:Int)):=by
 have:=(a8 .u64).all_get h (off:=0) (by decide);rw[show j*(a8 .u64).s+0=j from by simp[a8]]at this;rw[this];rfl
def QA(S:List (SV×List Nat)){j:Nat}{p:SV×List Nat}(h:S[j]? =some p):((bu Nat).all S)[j]? =some p.1.val:=by
 have:=(bu Nat).all_get h (off:=0) (by decide);rw[show j*(bu Nat).s+0=j from by simp[bu]]at this;rw[this];rfl
def tM(F:List Nat):((a8 .u64).all F).length=F.length:=by rw[(a8 .u64).all_length];exact SA _
def Et(S:List (SV×List Nat)):((bu Nat).all S).length=S.length:=by rw[(bu Nat).all_length];exact SA _
def QB(F:List Nat){j x:Nat}(h:j<F.length):((a8 .u64).all F).set j (.int .u64 (x:Int))=(a8 .u64).all (F.set j x):=by
 have:=qD (E:=a8 .u64) (l:=F) (j:=j) (a:=x) (u:=.int .u64 (x:Int)) Y h;rwa[show j*(a8 .u64).s=j from by simp[a8]]at this
def QC(S:List (SV×List Nat)){j:Nat}{p:SV×List Nat}(h:j<S.length):((bu Nat).all S).set j p.1.val=(bu Nat).all (S.set j p):=by
 have:=qD (E:=bu Nat) (l:=S) (j:=j) (a:=p) (u:=p.1.val) Y h;rwa[show j*(bu Nat).s=j from by simp[bu]]at this
section
variable {w0 w:World} {cs:List Chunk}
def ys{F:List Nat}{S:List (SV×List Nat)}{lo j x:Nat}(h:F[j]? =some x):((a8 .u64).all F++(bu Nat).all S++[.int .i64 (lo:Int)])[j]? =some (.int .u64 (x:Int)):=by
 have hj:=(IN.1 h).1;rw[KV,RH (by rw[tM];exact hj)];exact Qz F h
def yu{F:List Nat}{S:List (SV×List Nat)}{lo j:Nat}{p:SV×List Nat}(hF:F.length=16)(h:S[j]? =some p):((a8 .u64).all F++(bu Nat).all S++[.int .i64 (lo:Int)])[16+j]? =some p.1.val:=by
 have hj:=(IN.1 h).1;rw[KV,RO (by rw[tM,hF];omega),tM,hF,SB,RH (by rw[Et];exact hj)];exact QA S h
def yv{F:List Nat}{S:List (SV×List Nat)}{lo:Nat}(hF:F.length=16)(hS:S.length=16):((a8 .u64).all F++(bu Nat).all S++[.int .i64 (lo:Int)])[32]? =some (.int .i64 (lo:Int)):=by
 rw[RO (by rw[sp,tM,Et];omega),sp,tM,Et,hF,hS];rfl
def Sat.LV(hs:Sat w0 cs w)(i:Nat){b T lo j x:Nat}{F:List Nat}{S:List (SV×List Nat)}(hi:cs[i]? =some (ga b T F S lo))(h:F[j]? =some x):w.cell? ⟨b,0+j*1,none⟩=some (.int .u64 (x:Int)):=by
 rw[RX,SA];exact hs.cell hi (ys h)
def Sat.Fu(hs:Sat w0 cs w)(i:Nat){b T lo j:Nat}{F:List Nat}{S:List (SV×List Nat)}{p:SV×List Nat}(hi:cs[i]? =some (ga b T F S lo))(hF:F.length=16)(h:S[j]? =some p):w.cell? ⟨b,16+j*1,none⟩=some p.1.val:=by
 rw[SA];exact hs.cell hi (yu hF h)
theorem Sat.tabN(hs:Sat w0 cs w)(i:Nat){b T lo:Nat}{F:List Nat}{S:List (SV×List Nat)}(hi:cs[i]? =some (ga b T F S lo))(hF:F.length=16)(hS:S.length=16):w.cell? ⟨b,32,none⟩=some (.int .i64 (lo:Int)):=hs.cell hi (yv hF hS)
def rG{α:Type}{l:List α}{j:Nat}{x y:α}(h:l[j]? =some x):(l.eraseIdx j++[y]).Perm (l.set j y):=by
 obtain⟨hj,rfl⟩:=IN.1 h;rw[eraseIdx_eq_take_drop_succ,T6,No hj,KV];exact Tw _ Ui
def Sat.Am{A ds es:List Chunk}(h:Sat w0 A w)(i:Nat)(hi:A[i]? =some (kq ds))(hp:ds.Perm es):Sat w0 (A.set i (kq es)) w:=by
 obtain⟨hil,hid⟩:=IN.1 hi;have e1:A=A.take i++kq ds::A.drop (i+1):=by rw[<-hid];simp
 rw[e1,Sat.gK]at h;rw[T6,No hil,Sat.gK];exact h.perm (Tw _ (UZ _ hp))
def Sat.pull{A ds:List Chunk}{d:Chunk}(h:Sat w0 A w)(i:Nat)(hi:A[i]? =some (kq (ds++[d]))):Sat w0 (A.set i (kq ds)++[d]) w:=by
 obtain⟨hil,hid⟩:=IN.1 hi;have e1:A=A.take i++kq (ds++[d])::A.drop (i+1):=by rw[<-hid];simp
 rw[e1,Sat.gK]at h;rw[T6,No hil,KV,TE,Sat.gK];refine h.perm (Tw _ ?_);rw[KV];exact Tw _ Ui
variable {α:Type} {E:Enc α} {e:Nat}
def Sat.xJ{A:List Chunk}{ps:List (SV×List α)}{p:SV×List α}{j:Nat}(h:Sat w0 A w)(i:Nat)(hi:A[i]? =some (aW e E ps))(hj:ps[j]? =some p):Sat w0 (A.set i (aW e E (ps.eraseIdx j))++[cL p.1.val e E p.2]) w:=by
 have hil:=(IN.1 hi).1;have hpm:(ps.map λ p=>cL p.1.val e E p.2).Perm ((ps.eraseIdx j).map (λ p=>cL p.1.val e E p.2)++[cL p.1.val e E p.2]):=by
  have h1:(ps.eraseIdx j++[p]).Perm ps:=by
   have:=rG (y:=p) hj;obtain⟨hj2,hj3⟩:=IN.1 hj;rw[<-hj3]at this⊢;rwa[Uh]at this
  have h2:=(h1.map λ p=>cL p.1.val e E p.2).symm;rw[Si]at h2;exact h2
 have h1:=h.Am i hi hpm;have h2:=h1.pull i (by rw[St hil]);rw[UN]at h2;exact h2
def Sat.Dq{A:List Chunk}{ps:List (SV×List α)}{s:SV}{l:List α}{j:Nat}(h:Sat w0 (A++[cL s.val e E l]) w)(i:Nat)(hi:A[i]? =some (aW e E (ps.eraseIdx j)))(hj:j<ps.length):Sat w0 (A.set i (aW e E (ps.set j (s,l)))) w:=by
 have hil:=(IN.1 hi).1;have h1:=h.push i hi;have hpm:((ps.eraseIdx j).map (λ p=>cL p.1.val e E p.2)++[cL s.val e E l]).Perm ((ps.set j (s,l)).map λ p=>cL p.1.val e E p.2):=by
  have h2:=(rG (l:=ps) (j:=j) (y:=(s,l)) (py hj)).map λ p=>cL p.1.val e E p.2;rw[Si]at h2;exact h2
 have h2:=h1.Am i (by rw[St hil]) hpm;rw[UN]at h2;exact h2
def Sat.qR(h:Sat w0 cs w)(e:Nat)(E:Enc α):∀ k,Sat w0 (cs++[aW e E (List.replicate k (⟨none,0,0⟩,[]))]) w
 |0=>h.qT e E
 |k+1=>by
  have h1:=(Sat.qR h e E k).az e E;have h2:=Sat.lk (A:=cs++[aW e E (List.replicate k (⟨none,0,0⟩,[]))]) (s:=⟨none,0,0⟩) (l:=[]) (ps:=List.replicate k (⟨none,0,0⟩,[])) h1 cs.length (by simp);rw[Sf _ _ (KD _),Se]at h2;rw[replicate_succ'];exact h2
variable {P:Program} {n:Nat} {L:aA} {K:Value->World->Prop} {d:Option Nat} {ty:TypeId} {pos:String} {af:Array Edge} {g:Option (Nat×Bool)}
def OpE.LX{x y:Operand}{T U b j a lo:Nat}{F:List Nat}{S:List (SV×List Nat)}(i:Nat)(hT:(P.info? T).map (·.size)=some 1)(hs:Sat w0 cs w)(hi:cs[i]? =some (ga b U F S lo))(hx:aJ L x=some (.pointer (some ⟨b,0+j*1,none⟩)))
  (hy:aJ L y=some (.int .u64 (a:Int))) (hj:j<F.length) (hk:∀ w',Sat w0 (cs.set i (ga b U (F.set j a) S lo)) w'->Chg [b] w w'->K undef w'):OpE P n L w ⟨d,.store T x y,ty,pos,af,g⟩ K:=by
 rw[RX,SA]at hx;refine OpE.aS hT hs hi hx hy Y (ys (py hj)) λ w' hS hC=>hk w' ?_ hC;rw[KV,Up _ _ (by rw[tM];exact hj),QB F hj,<-KV]at hS;exact hS
def OpE.Dm{x y:Operand}{T U b j lo:Nat}{F:List Nat}{S:List (SV×List Nat)}(p:SV×List Nat)(i:Nat)(hT:(P.info? T).map (·.size)=some 1)(hs:Sat w0 cs w)(hi:cs[i]? =some (ga b U F S lo))(hx:aJ L x=some (.pointer (some ⟨b,16+j*1,none⟩)))
  (hy:aJ L y=some p.1.val) (hF:F.length=16) (hj:j<S.length) (hk:∀ w',Sat w0 (cs.set i (ga b U F (S.set j p) lo)) w'->Chg [b] w w'->K undef w'):OpE P n L w ⟨d,.store T x y,ty,pos,af,g⟩ K:=by
 rw[SA]at hx;refine OpE.aS hT hs hi hx hy Y (yu hF (py hj)) λ w' hS hC=>hk w' ?_ hC;rw[KV,Sf _ _ (by rw[tM,hF];omega),tM,hF,SB,Up _ _ (by rw[Et];exact hj),QC S hj,<-KV]at hS;exact hS
def OpE.Dr{x y:Operand}{T U b a lo:Nat}{F:List Nat}{S:List (SV×List Nat)}(i:Nat)(hT:(P.info? T).map (·.size)=some 1)(hs:Sat w0 cs w)(hi:cs[i]? =some (ga b U F S lo))(hx:aJ L x=some (.pointer (some ⟨b,32,none⟩)))
  (hy:aJ L y=some (.int .i64 (a:Int))) (hF:F.length=16) (hS:S.length=16) (hk:∀ w',Sat w0 (cs.set i (ga b U F S a)) w'->Chg [b] w w'->K undef w'):OpE P n L w ⟨d,.store T x y,ty,pos,af,g⟩ K:=by
 refine OpE.aS hT hs hi hx hy Y (yv hF hS) λ w' hSt hC=>hk w' ?_ hC;rw[Sf _ _ (by rw[sp,tM,Et];omega),sp,tM,Et,hF,hS]at hSt;exact hSt
end
section
variable {P:Program} {n:Nat} {L:aA} {w:World} {d:Option Nat} {ty:TypeId} {pos:String} {af:Array Edge} {g:Option (Nat×Bool)}
def GB(t:TypeId)(a b:Bool)(h:P.underlying t=some .bool)(w:World):(binOp .neq t (.bool a) (.bool b)).run P w= .ok (.bool (!(a==b))) w:=by
 have:∀ d,(Op.equalIn (d+1) t (.bool a) (.bool b)).run P w= .ok (a==b) w:=λ d=>by simp[Op.equalIn,Rt h]
 simp only[binOp];simp[Op.equal,Op.maxDepth,this 9999]
def Ev.M9{x y:Operand}{t T:TypeId}{a b:Bool}(hu:P.underlying t=some .bool)(hx:aJ L x=some (.bool a))(hy:aJ L y=some (.bool b)):Ev P n L w ⟨d,.binOp .neq t x y T,ty,pos,af,g⟩ (.bool (!(a==b))):=
 .bin hx hy (by rfl) λ w=>GB t a b hu w
end
section
variable {P:Program} {n:Nat} {fn:Func} {Φ:Value->World->Prop} {L:aA} {w:World}
def B5{t T b u:Nat}{vs:List Value}{x:Value}(hr:fn.results= #[.cell t T,.tmp u])(hv:look L t=some (.pointer (some ⟨b,0,none⟩)))(hx:look L u=some x)(hT:dS P T vs.length=true)(hc:∀ j u,vs[j]? =some u->w.cell? ⟨b,j,none⟩=some u)
  (h:Φ (.tuple #[.agg vs.toArray,x]) w):aM P n fn Φ L w:=λ a ha=>by
 have h1:=ha.slot t _ hv;have h2:=ha.slot u _ hx;refine⟨_,?_,h⟩;simp[results,hr,SU,h1,h2,asAddr,kK hT hc]
end
end Go.Kw
namespace Go.Kw
def bs(l:List UInt8):ByteArray:=⟨l.toArray⟩
section
variable {al:List (ByteArray×Bool)} {nx jr:Int} {pl:List Pc}
end
end Go.Kw
namespace Go.Kw
open Go.RowKit
def Na{α:Type}(v:Value)(E:Enc α)(l:List α):Chunk where
 foot:=bT v
 holds w:=RdL w v E l
 stable w w' h hc:=by
  obtain⟨a,cap,rfl,hn,hr⟩:=hc;refine⟨a,cap,Y,hn,λ j u hu=>?_⟩;obtain⟨b,o,rfl,hw⟩:=hr j u hu;exact⟨b,o,Y,(World.cell?_of_block (w:=w) (a:=⟨b,o+j,none⟩) (h b (by simp[bT]))).trans hw⟩
def Sat.ud{α:Type}{w0 w:World}{cs:List Chunk}(h:Sat w0 cs w){v:Value}{E:Enc α}{l:List α}(i:Nat)(hi:cs[i]? =some (Na v E l)):RdL w v E l:=h.get hi
section
variable {P:Program} {n:Nat} {L:aA} {w w0:World} {cs:List Chunk} {K:Value->World->Prop} {d:Option Nat} {ty:TypeId} {pos:String} {af:Array Edge} {g:Option (Nat×Bool)}
def OpE.ox{x:Operand}{s t e:TypeId}{u:ByteArray}{uT:TypeDesc}(h1:P.underlying s=some uT)(h2:P.underlying t=some (.slice e))(h3:P.underlying e=some (.int .u8))(hs:Sat w0 cs w)(hx:aJ L x=some (.string u))(hu:u.size<=4611686018427387904)
  (hk:∀ v w',Sat w0 (cs++[Na v (a8 .u8) (cr u)]) w'->K v w'):OpE P n L w ⟨d,.convert s t x,ty,pos,af,g⟩ K:=by
 have hb:=Lib.bytesWorld_below w e u;refine .val (v:=.slice (some ⟨w.heap.size,0,none⟩) u.size (grownCap w u.size 0 e)) (w':=Lib.bytesWorld w e u) (λ ρ hρ=>?_) (hk (.slice (some ⟨w.heap.size,0,none⟩) u.size (grownCap w u.size 0 e)) _ (hs.add (.oy hb) ?_ ?_))
 ·simp only[execOp,hρ hx,RA,Lib.run_convert_string_bytes w s t e u h1 h2 h3,Rs,RJ]
 ·show RdL _ _ _ _;refine⟨_,_,by rw[ay],by rw[ay];exact VK ..,λ j v hj=>⟨w.heap.size,0,Y,?_⟩⟩;have hjl:=(IN.1 hj).1;rw[(a8 .u8).all_length,ay]at hjl;have hjl2:j<u.size:=by have e1:(a8 .u8).s=1:=rfl;rw[e1,SA]at hjl;exact hjl
  rw[RX,Lib.bytesWorld_cell w e u j hjl2];have e1:(a8 .u8).all (cr u)=u.data.toList.map λ b=>Value.int .u8 (b.toNat:Int):=by
   unfold cr;induction u.data.toList with
   |nil=>rfl
   |cons y r ih=>rw[Sg,Enc.all_cons,ih];rfl
  rw[e1,Rz]at hj;rw[<-hj];have:u.data.toList[j]? =some (u.data.toList.getD j 0):=by
   rw[KP,py (show j<u.data.toList.length from hjl2)];rfl
  rw[this];rfl
 ·intro k hk;simp only[Na,bT,RL]at hk;subst hk;rw[Lib.bytesWorld_size];omega
def oQ{α:Type}(E:Enc α)(m:Nat)(hE:E.s=m)(a:α)(i:Nat)(pre rest:List Value)(r:List (Nat×Value))(hp:pre.length=i*m)(hr:m<=rest.length):
  Instr.fill (λ i=>some (i*m,m)) (pre++rest).toArray ((i,E.ag a)::r)=Instr.fill (λ i=>some (i*m,m)) ((pre++E.enc a)++rest.drop m).toArray r:=by
 have hlen:(E.enc a).length=m:=by rw[E.len,hE]
 have hf:=rR (E.enc a) (i*m) pre rest hp (by omega);have hagc:(E.ag a).cells=(E.enc a).toArray:=rfl;rw[Instr.fill];simp only[hagc];rw[M2 (by simp[hlen];omega)];congr 1;rw[hlen]at hf;rw[<-hf,<-Array.foldl_toList];have hz:(E.enc a).toArray.zipIdx.toList=(E.enc a).zipIdx:=by simp
 rw[hz];have:∀ (vs:List Value) (k0:Nat) (A:Array Value),(vs.zipIdx k0).foldl (λ(cs:Array Value) (x:Value×Nat)=>cs.setIfInBounds (i*m+x.2) x.1) A=(vs.zipIdx (i*m+k0)).foldl (λ(cs:Array Value) (x:Value×Nat)=>cs.setIfInBounds x.2 x.1) A:=by
  intro vs;induction vs with
  |nil=>intro k0 A;rfl
  |cons v vs ih=>intro k0 A;simp only[zipIdx_cons,TQ];rw[ih (k0+1)];rfl
 exact this (E.enc a) 0 _
def P7{α:Type}(E:Enc α)(m:Nat)(hE:E.s=m)(a b c:α)(zc:Array Value):Instr.fill (λ i=>some (i*m,m)) ((Array.range (3*m)).map (zc[· %zc.size]!)) [(0,E.ag a),(1,E.ag b),(2,E.ag c)]=some (E.all [a,b,c]).toArray:=by
 have e0:(Array.range (3*m)).map (zc[· %zc.size]!)=([]++(List.range (3*m)).map (zc[· %zc.size]!)).toArray:=by
  apply Array.ext';simp
 have hl:∀ x:α,(E.enc x).length=m:=λ x=>by rw[E.len,hE]
 rw[e0,oQ E m hE a 0 [] _ _ (by simp) (by simp;omega),oQ E m hE b 1 _ _ _ (by simp[hl]) (by simp;omega),oQ E m hE c 2 _ _ _ (by simp[hl];omega) (by simp;omega),Instr.fill];have e1:List.drop m (List.drop m (List.drop m ((List.range (3*m)).map (zc[· %zc.size]!))))=[]:=by
  apply SF;simp;omega
 rw[e1,Enc.all_cons,Enc.all_cons,Enc.all_one];simp
def OpE.Qi{α:Type}{x y z':Operand}{t e b m:Nat}{z:Value}(E:Enc α)(a b' c:α)(hty:SlTy P t e E.s z b)(hE:E.s=m)(hp:0<m)(hm:3*m<=16777216)(hs:Sat w0 cs w)(hx:aJ L x=some (E.ag a))(hy:aJ L y=some (E.ag b'))(hz':aJ L z'=some (E.ag c))
  (hk:∀ u w',Sat w0 (cs++[cL u e E [a,b',c]]) w'->Chg [] w w'->K u w'):OpE P n L w ⟨d,.buildSlice t 3 #[(0,x),(1,y),(2,z')],ty,pos,af,g⟩ K:=by
 subst hE;have hfill:=P7 E E.s Y a b' c;obtain⟨inf,i1,i2,i3,i4⟩:=hty.info;have hz:=hty.zs;refine .val (λ ρ hρ=>?_) (hk (.slice (some ⟨w.heap.size,0,none⟩) 3 3) (w.alloc (.cells (E.all [a,b',c]).toArray e)) ?_ (.alloc _ _))
 ·have hrun:(Instr.buildSlice t 3 #[(0,E.ag a),(1,E.ag b'),(2,E.ag c)]).run P w= .ok (.slice (some ⟨w.heap.size,0,none⟩) 3 3) (w.alloc (.cells (E.all [a,b',c]).toArray e)):=by
   have hf:=hfill z.cells;have h24:¬ 2^24<3*E.s:=by omega
   have h0:¬ (3*E.s:Nat)=0:=by omega
   have h00:¬ (E.s:Nat)=0:=by omega
   have r1:(zeroValue e).run P w= .ok z w:=by simp[zeroValue,typeInfo,i1,i2,go_sem]
   have r2:(sizeOf e).run P w= .ok E.s w:=by simp[sizeOf,typeInfo,i1,i3,go_sem]
   have r3:(newRow e (E.all [a,b',c]).toArray).run P w= .ok ⟨w.heap.size,0,none⟩ (w.alloc (.cells (E.all [a,b',c]).toArray e)):=by simp[newRow,go_sem]
   simp only[Instr.buildSlice,Rt hty.und,r2,RA,Rs,Vw,h24,h0,h00,SX,r1,RJ,hf,r3]
  simp only[execOp,TM,Sg,U3,hρ hx,hρ hy,hρ hz',RA,hrun,Rs,RJ]
 ·have h:=hs.we e E.s 3 3 (E.all [a,b',c]) (by unfold maxLen;omega) (KD _) (by rw[E.all_length];rfl);unfold cL;rw[Ru (by rw[E.all_length];exact KD _)]at h;exact h
end
section
variable {P:Program} {n:Nat} {L:aA} {w w0:World} {d:Option Nat} {ty:TypeId} {pos:String} {af:Array Edge} {g:Option (Nat×Bool)}
end
section
variable {P:Program} {n:Nat} {L:aA} {w w0:World} {cs:List Chunk} {d:Option Nat} {ty:TypeId} {pos:String} {af:Array Edge} {g:Option (Nat×Bool)}
end
section
variable {w0 w:World} {cs:List Chunk} {e:Nat}
end
end Go.Kw
namespace Go.Kw
def fo(F:List Nat)(Q:World->Prop):Chunk where
 foot:=F
 holds w:=∀ w',(∀ k∈F,w'.heap[k]? =w.heap[k]?)->Q w'
 stable w w' h hc:=λ w'' hk=>hc w'' λ k hm=>(hk k hm).trans (h k hm)
theorem Sat.bo{w0 w:World}{cs:List Chunk}(h:Sat w0 cs w)(i:Nat){F:List Nat}{Q:World->Prop}(hi:cs[i]? =some (fo F Q)):Q w:=h.get hi w λ _ _=>Y
def Hs(cs:List Chunk)(w:World):Prop:=∀ c∈cs,c.holds w
theorem Hs.get{cs:List Chunk}{w:World}(h:Hs cs w){i:Nat}{c:Chunk}(hi:cs[i]? =some c):c.holds w:=h c (Rv hi)
theorem Hs.bo{w:World}{cs:List Chunk}(h:Hs cs w)(i:Nat){F:List Nat}{Q:World->Prop}(hi:cs[i]? =some (fo F Q)):Q w:=h.get hi w λ _ _=>Y
theorem Hs.ah{α:Type}{w:World}{cs:List Chunk}(h:Hs cs w){e:Nat}{v:Value}{E:Enc α}{l:List α}(i:Nat)(hi:cs[i]? =some (cL v e E l)):RdL w v E l:=Rd.pM (h.get hi)
theorem Hs.bj{α:Type}{w:World}{cs:List Chunk}(h:Hs cs w){e:Nat}{E:Enc α}{ps:List (SV×List α)}(i:Nat)(hi:cs[i]? =some (aW e E ps)):∀ p∈ps,RdL w p.1.val E p.2:=λ p hp=>
 Rd.pM ((h.get hi).1 (cL p.1.val e E p.2) (Su hp))
def Sat.Qd{w0 w:World}{A B:List Chunk}{Q:World->Prop}(h:Sat w0 (A++B) w)(hq:∀ w',Hs A w'->Q w'):∃ F,Sat w0 (fo F Q::B) w:=by
 refine⟨A.flatMap (·.foot),h.old,λ c hc=>?_,?_⟩
 ·rcases Rx.1 hc with rfl|hc
  ·refine⟨λ w' hk=>hq w' λ c hc=>c.stable w w' (λ k hm=>hk k (Tq.2 ⟨c,hc,hm⟩)) (h.holds c (Td _ hc)).1,λ k hk=>?_⟩;obtain⟨c,hc,hm⟩:=Tq.1 hk;exact(h.holds c (Td _ hc)).2 k hm
  ·exact h.holds c (Sn _ hc)
 ·obtain⟨_,h2,h3⟩:=Tf.1 h.apart;refine Sb.2 ⟨λ d hd k hk=>?_,h2⟩;obtain⟨c,hc,hm⟩:=Tq.1 hk;exact h3 c hc d hd k hm
def Sat.wc{w0 w:World}{cs:List Chunk}{Q:World->Prop}(n:Nat)(h:Sat w0 cs w)(hq:∀ w',Hs (cs.take n) w'->Q w'):∃ F,Sat w0 (fo F Q::cs.drop n) w:=
 Sat.Qd (A:=cs.take n) (B:=cs.drop n) (by rw[RY];exact h) hq
def Ev.Qe{P:Program}{n:Nat}{L:aA}{w:World}{d:Option Nat}{ty:TypeId}{pos:String}{af:Array Edge}{g:Option (Nat×Bool)}{x:Operand}{T:TypeId}{f off c m:Nat}{v:Value}(hf:kO P T f off=true)(hx:aJ L x=some (bN v c))(h:Qp v m)(hm:0<m):
  Ev P n L w ⟨d,.fieldAddr T x f,ty,pos,af,g⟩ (bN v (c+off)):=by
 obtain⟨a,cap,rfl,ha⟩:=h;obtain⟨bb,o,rfl⟩:=ha hm;have e1:bN (.slice (some ⟨bb,o,none⟩) m cap) c= .pointer (some ⟨bb,o+c,none⟩):=by simp only[bN,Sz]
 have e2:bN (.slice (some ⟨bb,o,none⟩) m cap) (c+off)= .pointer (some ⟨bb,o+c+off,none⟩):=by simp only[bN,Sz,Ti]
 rw[e2];rw[e1]at hx;exact Ev.fieldAddr hf hx Y
def Sat.Aj{w0 w:World}{cs:List Chunk}{Q:World->Prop}(h:Sat w0 cs w)(hq:∀ w',Q w'):Sat w0 (fo [] Q::cs) w:=by
 refine⟨h.old,λ c hc=>?_,Sb.2 ⟨(λ d _ k hk=>by cases hk),h.apart⟩⟩;rcases Rx.1 hc with rfl|hc
 ·exact⟨λ w' _=>hq w',(λ k hk=>by cases hk)⟩
 ·exact h.holds c hc
def Sat.LU{w0 w:World}{A B cs L:List Chunk}(h:Sat w0 ((A++cs)++B) w)(hp:rV (A++B)=some L):Sat w0 (L++cs) w:=by rw[gW _ _ hp];exact h.vY
def Sat.QR{w0 w:World}{A cs L:List Chunk}{i:Nat}{c:Chunk}(h:Sat w0 ((A++cs).set i c) w)(hi:Nat.blt i A.length=true)(hp:rV (A.set i c)=some L):Sat w0 (L++cs) w:=by
 rw[gW _ _ hp];rw[Up _ _ (by simpa[Vn]using hi)]at h;exact h
def yw:List Chunk->Nat->Option Chunk
 |c::_,0=>some c
 |_::cs,k+1=>yw cs k
 |[],_=>none
def B7:List Nat->List Chunk->Option (List Chunk)
 |[],_=>some []
 |i::is,A=>match yw A i with
  |some c=>match B7 is A with
   |some l=>some (c::l)
   |none=>none
  |none=>none
def nB:∀ (A:List Chunk) (i:Nat) (c:Chunk),yw A i=some c->A.getD i qC=c
 |_::_,0,c,h=>by simp only[yw,Th]at h;simpa using h
 |_::cs,k+1,c,h=>by have:=nB cs k c h;simpa using this
 |[],_,c,h=>by simp[yw]at h
def Ci:∀ (is:List Nat) (A L:List Chunk),B7 is A=some L->L=is.map (λ i=>A.getD i qC)
 |[],_,L,h=>by simp only[B7,Th]at h;exact h.symm
 |i::is,A,L,h=>by
  simp only[B7]at h;split at h
  ·rename_i c hc
   split at h
   ·rename_i l hl
    cases h;rw[Sg,<-Ci is A l hl,nB A i c hc]
   ·cases h
  ·cases h
theorem Sat.ordN{w0 w:World}{A cs L:List Chunk}(idx:List Nat)(hp:idx.isPerm (List.range idx.length)=true)(h:Sat w0 (A++cs) w)(hl:A.length=idx.length)(hq:B7 idx A=some L):Sat w0 (L++cs) w:=by
 rw[Ci _ _ _ hq];exact Sat.order idx hp h hl
def Sat.R9{w0 w:World}{A cs L M:List Chunk}(k:Nat)(h:Sat w0 (A++cs) w)(h1:rV (A.take k)=some L)(h2:rV (A.drop k)=some M):Sat w0 (L++(M++cs)) w:=by
 rw[gW _ _ h1,gW _ _ h2];exact h.cut k
theorem Sat.km{w0 w:World}{A cs L:List Chunk}(h:Sat w0 (A++cs) w)(is:List Nat)(hp:fp is 0 A=some L):Sat w0 (L++cs) w:=h.sub ((lG _ _ _ _ hp).append (Vt cs))
def Sat.lr{w0 w:World}{A cs T D:List Chunk}{Q:World->Prop}(n:Nat)(h:Sat w0 (A++cs) w)(h1:rV (A.take n)=some T)(h2:rV (A.drop n)=some D)(hq:∀ w',Hs T w'->Q w'):∃ F,Sat w0 ((fo F Q::D)++cs) w:=
 Sat.Qd (A:=T) (B:=D++cs) (by rw[gW _ _ h1,gW _ _ h2];exact h.cut n) hq
def Sat.tF{w0 w:World}{A cs:List Chunk}{Q:World->Prop}(h:Sat w0 (A++cs) w)(hq:∀ w',Q w'):Sat w0 ((fo [] Q::A)++cs) w:=Sat.Aj h hq
def CW.Q7{P:Program}{n:Nat}{N R:aA->World->Prop}{X G:List (Nat×(aA->World->Prop))}{L:aA}{w w0 w1:World}{A A' cs:List Chunk}{id:Nat}{l:List Oper}(is:List Nat)(_hs:Sat w0 (A++cs) w1)(_hp:fp is 0 A=some A')(p:Plan)(hm:P.follows .mixedOrders=true)(hok:p.xL l=true)
  (h:RP P n l [λ w'=>Sat w0 (A'++cs) w'] p N L w.drew):CW P n (.region id l.toArray true) ⟨N,R,X,G⟩ L w:=CW.draw (λ w'=>Sat w0 (A'++cs) w') p hm hok h
def CW.fE{P:Program}{n:Nat}{N R:aA->World->Prop}{X G:List (Nat×(aA->World->Prop))}{L:aA}{w w0 w1:World}{A A1 A2 cs:List Chunk}{id:Nat}{l:List Oper}(is ks:List Nat)(_hs:Sat w0 (A++cs) w1)(_h1:fp is 0 A=some A1)(h2:fp ks 0 A1=some A2)(b:Nat)(p:Plan)(hm:P.follows .mixedOrders=true)(hok:p.Ai l b=true)
  (h:RP P n l [λ w'=>Sat w0 (A1++cs) w',λ w'=>Sat w0 (A2++cs) w'] p N L w.drew):CW P n (.region id l.toArray true) ⟨N,R,X,G⟩ L w:=CW.Dt (λ w'=>Sat w0 (A1++cs) w') (λ w'=>Sat w0 (A2++cs) w') b p (λ w' h=>h.km ks h2) hm hok h
def kI{P:Program}{n:Nat}{ops:List Oper}{K:aA->World->Prop}{L:aA}{w w0:World}{SS:List (World->Prop)}{p:Plan}{A B cs:List Chunk}(is:List Nat)(h2:Sat w0 (B++cs) w)(hp:fp is 0 B=some A)(h:RP P n ops ((λ u=>Sat w0 (B++cs) u)::SS) p K L w):
  ∃ T:World->Prop,(∀ u,T u->(λ u=>Sat w0 (A++cs) u) u)/\T w/\RP P n ops (T::SS) p K L w:=⟨_,λ _ h=>h.km is hp,h2,h⟩
def uN{P:Program}{n:Nat}{ops:List Oper}{K:aA->World->Prop}{L:aA}{w:World}{S:World->Prop}{SS:List (World->Prop)}{p:Plan}(h2:S w)(h:RP P n ops (S::SS) p K L w):∃ T:World->Prop,(∀ u,T u->S u)/\T w/\RP P n ops (T::SS) p K L w:=⟨S,λ _ h=>h,h2,h⟩
def gk{z:Int}{n:Nat}(h:z=(n:Int)):some (Value.int .i64 z)=some (Value.int .i64 (n:Int)):=by rw[h]
end Go.Kw
namespace Go.Kw
open Go.RowKit
class Mx(P:Program):Prop where
 h:P.follows .mixedOrders=true
theorem Ent.mk'{P : Program}{f : FuncId}{fn : Func}(hf : P.funcs[f]? = some fn)(hb : fn.body.isNone = false := by exact Y)(hn : (fn.name == "runtime.NumGoroutine") = false := by kernel_rfl) : Ent P f := ⟨.of hf hb hn⟩
def pl:List Nat->Plan->Plan
 |[],p=>p
 |k::r,p=>cond (Nat.blt k 1000) (.free k (pl r p)) (.one (k-1000) (pl r p))
section
variable {w0 w w':World} {cs cs' ds A B L:List Chunk}
def Sat.nn(h:Sat w0 cs w)(hp:rV cs=some cs':=by exact Y):Sat w0 cs' w:=h.nf hp
def Sat.pk(h:Sat w0 cs w)(is:List Nat)(hp:fp is 0 cs=some cs':=by exact Y):Sat w0 cs' w:=h.pick is hp
def Sat.pt(h:Sat w0 (A++cs) w)(is:List Nat)(hp:fp is 0 A=some L:=by exact Y):Sat w0 (L++cs) w:=h.km is hp
def Sat.mn(h:Sat w0 ((A++cs)++B) w)(hp:rV (A++B)=some L:=by exact Y):Sat w0 (L++cs) w:=h.LU hp
def Sat.sn{i:Nat}{c:Chunk}(h:Sat w0 ((A++cs).set i c) w)(hi:Nat.blt i A.length=true:=by exact Y)(hp:rV (A.set i c)=some L:=by exact Y):Sat w0 (L++cs) w:=h.QR hi hp
def Sat.od(h:Sat w0 (A++cs) w)(idx:List Nat)(hp:idx.isPerm (List.range idx.length)=true:=by decide)(hl:A.length=idx.length:=by exact Y)(hq:B7 idx A=some L:=by exact Y):Sat w0 (L++cs) w:=Sat.ordN idx hp h hl hq
theorem Sat.oc{M:List Chunk}(h:Sat w0 (A++cs) w)(idx:List Nat)(k:Nat)(hp:idx.isPerm (List.range idx.length)=true:=by decide)(hl:A.length=idx.length:=by exact Y)(hq:B7 idx A=some B:=by exact Y)(h1:rV (B.take k)=some L:=by exact Y)(h2:rV (B.drop k)=some M:=by exact Y):Sat w0 (L++(M++cs)) w:=(Sat.ordN idx hp h hl hq).R9 k h1 h2
end
def aR{α:Type}{K:α->aA}{I:α->Prop}{μ:α->Nat}{m:Nat}{L':aA}(x':α)(hI:I x')(hw:(K x').map (λ q=>look L' q.1)=(K x').map (λ q=>some q.2):=by exact Y)(hm:μ x'<m:=by first|omega|(dsimp only;omega)):∃ x',Weak (K x') L'/\I x'/\μ x'<m:=⟨x',wk hw,hI,hm⟩
section
variable {P:Program} {n:Nat} {N R:aA->World->Prop} {X G:List (Nat×(aA->World->Prop))} {L L0:aA} {w w0:World} {cs cs' A A':List Chunk}
def bY{f:FuncId}{fn:Func}{c:Code}{args:List Value}{Φ:Value->World->Prop}(hf:P.funcs[f]? =some fn)(hb:fn.body=some c)(h:Sat w [] w->CW P fn.ntmps c ⟨aM P fn.ntmps fn Φ,aM P fn.ntmps fn Φ,[],[]⟩ (initK args 0) w)(hn:Nat.ble args.length fn.ntmps=true:=by exact Y):CallsV P f args w Φ:=ai hf hb hn (h (Sat.start w))
def CW.lq{c:Code}{α:Type}(ts:List Nat)(h:nF ts L=some L0)(K:α->aA)(I:α->World->Prop)(μ:α->Nat)(x₀:α)(hI:I x₀ w)
  (round:∀ x w,I x w->CW P n c ⟨λ L' w'=>∃ x',Weak (K x'++L0) L'/\I x' w'/\μ x'<μ x,R,X,G⟩ (K x++L0) w) (h0:(K x₀++L0).map (λ q=>look L q.1)=(K x₀++L0).map (λ q=>some q.2):=by exact Y):CW P n (.loop c) ⟨N,R,X,G⟩ L w:=CW.lp ts h K I μ x₀ (wk h0) hI round
def CW.dk[Mx P]{id:Nat}{l:List Oper}(is:List Nat)(hs:Sat w0 cs w)(hp:fp is 0 cs=some cs')(p:Plan)(h:Sat w0 cs w.drew->Sat w0 cs' w.drew->RP P n l [λ w'=>Sat w0 cs' w'] p N L w.drew)(hok:p.xL l=true:=by kernel_rfl):CW P n (.region id l.toArray true) ⟨N,R,X,G⟩ L w:=
 CW.draw (λ w'=>Sat w0 cs' w') p Mx.h hok (h hs.drew (hs.drew.pick is hp))
def CW.dt[Mx P]{id:Nat}{l:List Oper}(is:List Nat)(hs:Sat w0 (A++cs) w)(hp:fp is 0 A=some A')(p:Plan)(h:Sat w0 (A++cs) w.drew->Sat w0 (A'++cs) w.drew->RP P n l [λ w'=>Sat w0 (A'++cs) w'] p N L w.drew)(hok:p.xL l=true:=by kernel_rfl):CW P n (.region id l.toArray true) ⟨N,R,X,G⟩ L w:=
 CW.draw (λ w'=>Sat w0 (A'++cs) w') p Mx.h hok (h hs.drew (hs.drew.km is hp))
end
section
variable {P:Program} [Tb P] {n:Nat} {L L':aA} {w w0:World} {d:Option Nat} {ty:TypeId} {pos:String} {af:Array Edge} {g:Option (Nat×Bool)} {ops l r:List Oper} {K:aA->World->Prop} {C:List Prop} {cs ds A M:List Chunk} {f:FuncId} {vs:List Value} {v:Value} {xs:List Operand} {ats:Array TypeId}
def RT.cp[he:Ent P f](k:Nat)(hs:Sat w0 cs w)(hc:CallsV P f vs w λ r w'=>r=v/\Sat w ds w')(h:(eu P n ops k l L,oY L' xs)=(some (⟨d,.call ⟨.value (.func f),xs.toArray,ats⟩,ty,pos,af,g⟩,r,L',C),some vs))
  (hk:∀ w',Sat w0 (cs++ds) w'->RT P n ops r K (putK d v L') w') (hC:All C:=by(repeat (first|exact trivial|refine⟨by first|rfl|omega|(simp only[IntKind.bits];omega),?_⟩))):RT P n ops l K L w:=RT.c k hc h (by rintro _ w' ⟨rfl,h1⟩;exact hk _ (hs.ax h1)) hC
def RT.cq[he:Ent P f](k:Nat)(hs:Sat w0 cs w)(hc:CallsV P f vs w λ r w'=>r=v/\Sat w ds w')(h:(eu P n ops k l L,oY L' xs,rV (cs++ds))=(some (⟨d,.call ⟨.value (.func f),xs.toArray,ats⟩,ty,pos,af,g⟩,r,L',C),some vs,some M))
  (hk:∀ w',Sat w0 M w'->RT P n ops r K (putK d v L') w') (hC:All C:=by(repeat (first|exact trivial|refine⟨by first|rfl|omega|(simp only[IntKind.bits];omega),?_⟩))):RT P n ops l K L w:=by
 simp only[RW]at h;obtain⟨h1,h2,h3⟩:=h;exact RT.c k hc (by rw[h1,h2]) (by rintro _ w' ⟨rfl,h1⟩;exact hk _ ((hs.ax h1).nf h3)) hC
def RT.cm[he:Ent P f](k:Nat)(hs:Sat w0 (A++cs) w)(hc:CallsV P f vs w λ r w'=>r=v/\Sat w ds w')(h:(eu P n ops k l L,oY L' xs,rV (A++ds))=(some (⟨d,.call ⟨.value (.func f),xs.toArray,ats⟩,ty,pos,af,g⟩,r,L',C),some vs,some M))
  (hk:∀ w',Sat w0 (M++cs) w'->RT P n ops r K (putK d v L') w') (hC:All C:=by(repeat (first|exact trivial|refine⟨by first|rfl|omega|(simp only[IntKind.bits];omega),?_⟩))):RT P n ops l K L w:=by
 simp only[RW]at h;obtain⟨h1,h2,h3⟩:=h;exact RT.c k hc (by rw[h1,h2]) (by rintro _ w' ⟨rfl,h1⟩;exact hk _ ((hs.ax h1).LU h3)) hC
end
theorem OpE.mono{P:Program}{n:Nat}{L:aA}{w:World}{o:Oper}{K K':Value->World->Prop}(h:OpE P n L w o K)(hk:∀ v w',K v w'->K' v w'):OpE P n L w o K':=
 λ a ha next Q hn=>h a ha next Q λ v w' hv=>hn v w' (hk v w' hv)
def uO:Option Nat->Option Nat->Bool
 |some a,some b=> !Nat.beq a b
 |_,_=>true
def lz{x y:Option Nat}(h:uO x y=true)(v u:Value)(L:aA)(t:Nat):look (putK x v (putK y u L)) t=look (putK y u (putK x v L)) t:=by
 cases x with
 |none=>rfl
 |some a=>
  cases y with
  |none=>rfl
  |some b=>
   simp only[uO,Vu]at h;simp only[putK,look];cases ha:Nat.beq a t<;>cases hb:Nat.beq b t<;>try rfl
   have e1:=SL ha;have e2:=SL hb;rw[e1,e2]at h;simp at h
def RP.Jh{P:Program}{n:Nat}{ops:List Oper}{L:aA}{w:World}{K:aA->World->Prop}{S:World->Prop}{SS:List (World->Prop)}{p:Plan}{i j:Nat}{oi oj:Oper}(V:Value->Value->World->Prop)
  (h:(fH n ops i,fH n ops j,uO oi.dst oj.dst)=(some oi,some oj,true))
  (he:OpE P n L w oi λ v w'=>S w'/\OpE P n (putK oi.dst v L) w' oj λ u w''=>S w''/\V v u w'')
  (he':OpE P n L w oj λ u w'=>S w'/\OpE P n (putK oj.dst u L) w' oi λ v w''=>S w''/\V v u w'')
  (hk:∀ v u w',V v u w'->RP P n ops (S::SS) p K (putK oj.dst u (putK oi.dst v L)) w'):RP P n ops (S::SS) (.two i j (.one j p) (.one i p)) K L w:=by
 simp only[RW]at h;obtain⟨h1,h2,h3⟩:=h;have p1:=dq h1;have p2:=dq h2;refine .two p1.1 (ew p1.2) (ez p1.2) p2.1 (ew p2.2) (ez p2.2) (he.mono λ v w' hq=>⟨hq.1,.f h2 (hq.2.mono λ u w'' hr=>⟨hr.1,hk v u w'' hr.2⟩)⟩)
  (he'.mono λ u w' hq=>⟨hq.1,.f h1 (hq.2.mono λ v w'' hr=>⟨hr.1,λ a ha=>hk v u w'' hr.2 a ⟨ha.size,λ t x hx=>ha.slot t x (by rw[lz h3];exact hx),ha.defers⟩⟩)⟩)
def Eu{n:Nat}{x y:Option Nat}{v u:Value}{L:aA}{a:Act}(h:uO x y=true)(ha:Fits n (putK x v (putK y u L)) a):Fits n (putK y u (putK x v L)) a:=⟨ha.size,λ t z hz=>ha.slot t z (by rw[lz h];exact hz),ha.defers⟩
def GC{x:Option Nat}{v:Value}{L L':aA}(h:∀ t,look L t=look L' t)(t:Nat):look (putK x v L) t=look (putK x v L') t:=by
 cases x with
 |none=>exact h t
 |some a=>simp only[putK,look];rw[h t]
def RP.J4{P:Program}{n:Nat}{ops:List Oper}{L:aA}{w:World}{K:aA->World->Prop}{S:World->Prop}{SS:List (World->Prop)}{p:Plan}{i k j:Nat}{oi ok oj:Oper}(V:Value->Value->Value->World->Prop)
  (h:(fH n ops i,fH n ops k,fH n ops j,uO oi.dst oj.dst&&uO ok.dst oj.dst)=(some oi,some ok,some oj,true))
  (he:OpE P n L w oi λ v w'=>S w'/\OpE P n (putK oi.dst v L) w' ok (λ x w''=>S w''/\OpE P n (putK ok.dst x (putK oi.dst v L)) w'' oj λ u w3=>S w3/\V v x u w3)/\OpE P n (putK oi.dst v L) w' oj (λ u w''=>S w''/\OpE P n (putK oj.dst u (putK oi.dst v L)) w'' ok λ x w3=>S w3/\V v x u w3))
  (he':OpE P n L w oj λ u w'=>S w'/\OpE P n (putK oj.dst u L) w' oi λ v w''=>S w''/\OpE P n (putK oi.dst v (putK oj.dst u L)) w'' ok λ x w3=>S w3/\V v x u w3)
  (hk:∀ v x u w',V v x u w'->RP P n ops (S::SS) p K (putK oj.dst u (putK ok.dst x (putK oi.dst v L))) w'):RP P n ops (S::SS) (.two i j (.two k j (.one j p) (.one k p)) (.one i (.one k p))) K L w:=by
 simp only[RW,RC]at h;obtain⟨h1,h2,h3,h4,h5⟩:=h;have p1:=dq h1;have p2:=dq h2;have p3:=dq h3;refine .two p1.1 (ew p1.2) (ez p1.2) p3.1 (ew p3.2) (ez p3.2)
  (he.mono λ v w' hq=>⟨hq.1,.two p2.1 (ew p2.2) (ez p2.2) p3.1 (ew p3.2) (ez p3.2)
   (hq.2.1.mono λ x w'' hr=>⟨hr.1,.f h3 (hr.2.mono λ u w3 ht=>⟨ht.1,hk v x u w3 ht.2⟩)⟩)
   (hq.2.2.mono λ u w'' hr=>⟨hr.1,.f h2 (hr.2.mono λ x w3 ht=>⟨ht.1,λ a ha=>hk v x u w3 ht.2 a (Eu h5 ha)⟩)⟩)⟩)
  (he'.mono λ u w' hq=>⟨hq.1,.f h1 (hq.2.mono λ v w'' hr=>⟨hr.1,.f h2 (hr.2.mono λ x w3 ht=>⟨ht.1,λ a ha=>hk v x u w3 ht.2 a ⟨ha.size,λ t z hz=>ha.slot t z ?_,ha.defers⟩⟩)⟩)⟩)
 rw[GC (lz h4 v u L),lz h5];exact hz
