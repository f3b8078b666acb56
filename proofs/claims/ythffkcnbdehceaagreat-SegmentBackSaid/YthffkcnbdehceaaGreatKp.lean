/-
 KP:more operations for the program logic of Kw:building structs,boxes,masks,signed shifts. Our own text;it names no program.
-/
import Derived.Test.YthffkcnbdehceaaGreatKw
open List
set_option linter.unusedVariables false
set_option linter.unusedSimpArgs false
set_option linter.unusedSectionVars false
namespace Go.Kw
open Go.RowKit
def jH (pl:List (Nat×Nat)):List (Nat×Value)->List Value->Option (List Value)
 |[],zs=>some zs
 |(i,v)::r,zs=>match pl[i]? with
  |some (off,1)=>cond (Nat.ble (off+1) zs.length) (jH pl r (zs.set off v)) none
  |_=>none
def pd:List (Nat×Value)->Prop
 |[]=>True
 |(_,v)::r=>v.oneCell'=true/\pd r
def cH (L:ay):List (Nat×Operand)->Option (List (Nat×Value))
 |[]=>some []
 |(i,x)::r=>(aI L x).bind λ v=>(cH L r).map ((i,v):: ·)
structure BuildTy (P:Program) (T:TypeId) (pl:List (Nat×Nat)) (zs:List Value):Prop where
 zero:(P.info? T).map (·.zero)=some (some (.agg zs.toArray))
 und:∃ fs,P.underlying T=some (.struct fs)/\∀ w,(fs.mapM λ f=>do pure (f.offset,<-sizeOf f.type):Sem _).run P w= .ok pl.toArray w
theorem tq (pl:List (Nat×Nat)):∀ (parts:List (Nat×Value)) (zs out:List Value),pd parts->jH pl parts zs=some out->Instr.fill (pl.toArray[·]?) zs.toArray parts=some out.toArray
 |[],zs,out,_,h=>by simp only [jH,Option.some.injEq] at h;subst h;rfl
 |(i,v)::r,zs,out,h1,h=>by
  have hvc:v.cells= #[v]:=by have:=h1.1;cases v<;>first|rfl|cases this
  unfold jH at h
  cases hp:pl[i]? with
  |none=>simp [hp] at h
  |some q=>
   obtain ⟨off,s⟩:=q
   rw [hp] at h
   match s,h with
   |1,h=>
    simp only at h
    cases hb:Nat.ble (off+1) zs.length with
    |false=>simp [hb] at h
    |true=>
     rw [hb] at h
     have hle:=Nat.le_of_ble_eq_true hb
     have ih:=tq pl r (zs.set off v) out h1.2 h
     simp only [Instr.fill,getElem?_toArray,hp,hvc]
     simp only [size_toArray,length_cons,length_nil,Nat.zero_add,ne_eq,not_true,decide_false,Bool.false_or,gt_iff_lt]
     rw [if_neg (by simp;omega)]
     simpa using ih
section
variable {P:Program} {n:Nat} {L:ay} {w w0:World} {cs:List Chunk} {K:Value->World->Prop} {d:Option Nat} {ty:TypeId} {pos:String} {af:Array Edge} {g:Option (Nat×Bool)}
theorem Ev.build {T:TypeId} {pl:List (Nat×Nat)} {zs out:List Value} {parts:List (Nat×Operand)} {vs:List (Nat×Value)} (hb:BuildTy P T pl zs) (hp:cH L parts=some vs) (h1:pd vs) (ho:jH pl vs zs=some out):
  Ev P n L w ⟨d,.build T parts.toArray,ty,pos,af,g⟩ (.agg out.toArray):= .of λ ρ hρ=>by
 have he:∀ (parts:List (Nat×Operand)) (vs:List (Nat×Value)),cH L parts=some vs->parts.map (λ (i,x)=>(i,ρ x))=vs:=by
  intro parts
  induction parts with
  |nil=>intro vs h;simp [cH] at h;simp [h]
  |cons p r ih=>
   intro vs h
   obtain ⟨i,x⟩:=p
   simp only [cH,Option.bind_eq_some_iff,Option.map_eq_some_iff] at h
   obtain ⟨v,hv,us,hus,rfl⟩:=h
   simp [hρ hv,ih us hus]
 obtain ⟨fs,hu,hpl⟩:=hb.und
 have hz:=hb.zero
 have hfill:=tq pl vs zs out h1 ho
 cases hi:P.info? T with
 |none=>simp [hi] at hz
 |some inf=>
  simp [hi] at hz
  have hrun:(Instr.build T vs.toArray).run P w= .ok (.agg out.toArray) w:=by
   simp only [Instr.build,zeroValue,typeInfo,Sem.run_bind]
   simp [hi,hz,run_underlying hu]
   have:=hpl w
   simp at this
   have hfill':Instr.fill (λ x=>pl[x]?) zs.toArray vs=some out.toArray:=by simpa using hfill
   simp [this,Value.cells,hfill']
  simp only [execOp]
  rw [show (parts.toArray.map λ (i,x)=>(i,ρ x))=vs.toArray by rw [map_toArray,he parts vs hp]]
  simp only [Sem.run_bind,hrun,Result.andThen_ok,Sem.run_pure]
theorem yM (a m:Nat):a&&&(2^m-1)=a%2^m:=Nat.and_two_pow_sub_one_eq_mod a m
theorem G6 {P:Program} {a b:Nat} (ha:a<2^63) (hb:b<2^63) (w:World):(Op.intBits .and .i64 a b).run P w= .ok (.int .i64 ((a&&&b:Nat):Int)) w:=by
 have:=tz (Nat.and_lt_two_pow a hb)
 have ha':a<2^IntKind.i64.bits:=by simp only [IntKind.bits];omega
 have hb':b<2^IntKind.i64.bits:=by simp only [IntKind.bits];omega
 simp only [Op.intBits,BitVec.ofInt_natCast,BitVec.toNat_and,BitVec.toNat_ofNat,Nat.mod_eq_of_lt ha',Nat.mod_eq_of_lt hb',this]
 rfl
theorem Ev.Ig {x y:Operand} {xt yt:TypeId} {a b:Nat} (m:Nat) (hx:aI L x=some (.int .i64 (a:Int))) (hy:aI L y=some (.int .i64 (b:Int))) (hm:b=2^m-1) (ha:a<2^63) (hb:b<2^63):
  Ev P n L w ⟨d,.binOp .and xt x y yt,ty,pos,af,g⟩ (.int .i64 ((a%2^m:Nat):Int)):=
 .bin hx hy (eqGuard_at_int ..) λ w=>by rw [binOp_and,G6 ha hb,hm,yM]
theorem Ev.LM {x y:Operand} {xt yt:TypeId} {k:IntKind} {a b:Nat} (m:Nat) (hx:aI L x=some (.int k (a:Int))) (hy:aI L y=some (.int k (b:Int))) (hk:k.signed=false) (hm:b=2^m-1) (ha:a<2^k.bits) (hb:b<2^k.bits):
  Ev P n L w ⟨d,.binOp .and xt x y yt,ty,pos,af,g⟩ (.int k ((a%2^m:Nat):Int)):=by
 have:=Ev.PB (P:=P) (n:=n) (w:=w) (d:=d) (xt:=xt) (yt:=yt) (ty:=ty) (pos:=pos) (af:=af) (g:=g) hx hy hk ha hb
 rwa [hm,yM] at this
theorem Ev.rZ {x y:Operand} {xt yt:TypeId} {a b:Nat} (hx:aI L x=some (.int .i64 (a:Int))) (hy:aI L y=some (.int .i64 ((b:Int)-1))) (hba:b<=a+1) (h:a+1<=9223372036854775807):
  Ev P n L w ⟨d,.binOp .sub xt x y yt,ty,pos,af,g⟩ (.int .i64 ((a+1-b:Nat):Int)):=by
 have:=Ev.sub (P:=P) (n:=n) (w:=w) (d:=d) (xt:=xt) (yt:=yt) (ty:=ty) (pos:=pos) (af:=af) (g:=g) hx hy ⟨by omega,by omega⟩
 rwa [show (a:Int)-((b:Int)-1)=((a+1-b:Nat):Int) by omega] at this
theorem OpE.l7 {t e b:Nat} {z:Value} {α:Type} (E:Enc α) (hty:SlTy P t e E.s z b) (hs:Sat w0 cs w)
  (hk:∀ u w',Sat w0 (cs++[cL u e E []]) w'->Chg [] w w'->K u w'):OpE P n L w ⟨d,.buildSlice t 0 #[],ty,pos,af,g⟩ K:=by
 obtain ⟨inf,i1,i2,i3,i4⟩:=hty.info
 refine .val (λ ρ hρ=> ?_) (hk _ _ (by have:=hs.wK e E.s 0 0 [] (by unfold maxLen;omega) (Nat.le_refl _) (by simp);rw [take_nil] at this;exact this) (.alloc _ _))
 have hrun:(Instr.buildSlice t 0 #[]).run P w= .ok (.slice (some ⟨w.heap.size,0,none⟩) 0 0) (w.alloc (.cells #[] e)):=by
  simp [Instr.buildSlice,run_underlying hty.und,sizeOf,typeInfo,i1,i3,Instr.fill,newRow]
  simp [show Array.range 0=(#[]:Array Nat) from rfl]
 simp only [execOp,map_toArray,map_nil,Sem.run_bind,hrun,Result.andThen_ok,Sem.run_pure]
structure ArrTy (P:Program) (T m e s:Nat):Prop where
 und:P.underlying T=some (.array m e)
 size:(P.info? e).map (·.size)=some s
theorem Ev.cX {x i:Operand} {T m e s b o j:Nat} {k:IntKind} (hT:ArrTy P T m e s) (hx:aI L x=some (.pointer (some ⟨b,o,none⟩))) (hi:aI L i=some (.int k (j:Int))) (hj:j<m):
  Ev P n L w ⟨d,.indexAddr T x i,ty,pos,af,g⟩ (.pointer (some ⟨b,o+j*s,none⟩)):= .of λ ρ hρ=>by
 have hk:(0:Int)<=(j:Int)/\(j:Int)<(m:Int):=by omega
 have hz:=hT.size
 cases hin:P.info? e with
 |none=>simp [hin] at hz
 |some inf=>
  simp [hin] at hz
  simp only [execOp,hρ hx,hρ hi,Instr.indexAt,asIntOf,Sem.run_bind,run_underlying hT.und,Result.andThen_ok]
  simp [Instr.sureAddr,sizeOf,typeInfo,hin,hz,hk,hj,Addr.add_lit,go_sem]
theorem Sat.sd {α:Type} {E:Enc α} (h:Sat w0 cs w) (i:Nat) {b T j:Nat} {l:List α} {a:α} {u:Value} (hi:cs[i]? =some (aj b T (E.all l))) (ha:l[j]? =some a) (hs:0<E.s) (hu:(E.enc a)[0]? =some u):w.cell? ⟨b,0+j*E.s,none⟩=some u:=by
 rw [Nat.zero_add]
 have:=E.all_get ha hs
 rw [Nat.add_zero] at this
 exact h.cell hi (by rw [this];exact hu)
theorem OpE.setArr {α:Type} {E:Enc α} {x y:Operand} {T U b j:Nat} {u:Value} {l:List α} {a:α} (i:Nat) (hT:(P.info? T).map (·.size)=some 1) (hs:Sat w0 cs w) (hi:cs[i]? =some (aj b U (E.all l))) (hx:aI L x=some (.pointer (some ⟨b,0+j*E.s,none⟩)))
  (hy:aI L y=some u) (he:E.enc a=[u]) (hj:j<l.length) (hk:∀ w',Sat w0 (cs.set i (aj b U (E.all (l.set j a)))) w'->Chg [b] w w'->K undef w'):OpE P n L w ⟨d,.store T x y,ty,pos,af,g⟩ K:=by
 have h1:E.s=1:=by have:=E.len a;rw [he] at this;simpa using this.symm
 have hget:(E.all l)[j*E.s]? =some _:=getElem?_eq_getElem (by rw [E.all_length];exact Nat.mul_lt_mul_of_pos_right hj (by omega))
 rw [Nat.zero_add] at hx
 refine OpE.aM hT hs hi hx hy (E.one a u (by rw [he];simp)) hget λ w' hS hC=>hk w' ?_ hC
 rw [nB he hj] at hS
 exact hS
end
@[reducible] def Enc.ag {α:Type} (E:Enc α) (a:α):Value:= .agg (E.enc a).toArray
theorem tt (vs:List Value):∀ (k:Nat) (pre rest:List Value),pre.length=k->vs.length<=rest.length->
  (vs.zipIdx k).foldl (λ (cs:Array Value) (c,j)=>cs.setIfInBounds j c) (pre++rest).toArray=(pre++vs++rest.drop vs.length).toArray:=by
 induction vs with
 |nil=>intro k pre rest _ _;simp
 |cons v r ih=>
  intro k pre rest hk hl
  cases rest with
  |nil=>simp at hl
  |cons q rest=>
   simp only [zipIdx_cons,foldl_cons]
   have e:((pre++q::rest).toArray.setIfInBounds k v)=((pre++[v])++rest).toArray:=by
    subst hk;simp
   rw [e,ih (k+1) (pre++[v]) rest (by simp [hk]) (by simpa using hl)]
   simp
section
variable {P:Program} {n:Nat} {L:ay} {w w0:World} {cs:List Chunk} {K:Value->World->Prop} {d:Option Nat} {ty:TypeId} {pos:String} {af:Array Edge} {g:Option (Nat×Bool)} {α:Type} {E:Enc α}
def P8 (v:Value) (m:Nat):Prop:=∃ a cap,v= .slice a m cap/\(0<m->∃ b o,a=some ⟨b,o,none⟩)
theorem RdL.iR {v:Value} {l:List α} (h:RdL w v E l) (hs:0<E.s):P8 v l.length:=by
 obtain ⟨a,cap,rfl,_,hc⟩:=h
 refine ⟨a,cap,rfl,λ hp=> ?_⟩
 have hpos:0<(E.all l).length:=by rw [E.all_length];exact Nat.mul_pos hp hs
 obtain ⟨b,o,ha,_⟩:=hc 0 _ (getElem?_eq_getElem hpos)
 exact ⟨b,o,ha⟩
theorem Ev.fK {x i:Operand} {t e s b:Nat} {z v:Value} {m j:Nat} {k:IntKind} (hty:SlTy P t e s z b) (hx:aI L x=some v) (hi:aI L i=some (.int k (j:Int))) (h:P8 v m) (hj:j<m):
  Ev P n L w ⟨d,.indexAddr t x i,ty,pos,af,g⟩ (bE v (j*s)):= .of λ ρ hρ=>by
 obtain ⟨a,cap,rfl,ha⟩:=h
 obtain ⟨inf,h1,h2,h3,h4⟩:=hty.info
 obtain ⟨bb,o,rfl⟩:=ha (by omega)
 have hk:(0:Int)<=(j:Int)/\(j:Int)<(m:Int):=by omega
 simp only [execOp,hρ hx,hρ hi,Instr.indexAt,asIntOf]
 simp [run_underlying hty.und,sizeOf,typeInfo,h1,h3,hk,bE,go_sem,hj]
theorem Ev.LI {x:Operand} {T:TypeId} {v:Value} {j:Nat} {l:List α} {a:α} (hT:dx P T E.s=true) (hx:aI L x=some (bE v (j*E.s))) (h:RdL w v E l) (ha:l[j]? =some a) (hs:0<E.s):
  Ev P n L w ⟨d,.load T x,ty,pos,af,g⟩ (E.ag a):= .of λ ρ hρ=>by
 obtain ⟨ad,cap,rfl,_,hc⟩:=h
 have hcell:∀ q u,(E.enc a)[q]? =some u->(E.all l)[j*E.s+q]? =some u:=λ q u hu=>by
  have hq:q<E.s:=by have:=(List.getElem?_eq_some_iff.1 hu).1;rw [E.len] at this;exact this
  rw [E.all_get ha hq];exact hu
 obtain ⟨u0,hu0⟩:∃ u,(E.enc a)[0]? =some u:=⟨_,getElem?_eq_getElem (by rw [E.len];exact hs)⟩
 obtain ⟨bb,o,rfl,_⟩:=hc _ u0 (hcell 0 u0 hu0)
 have hx':ρ x= .pointer (some ⟨bb,o+j*E.s,none⟩):=by rw [hρ hx];simp [bE,Addr.add_lit]
 have hl:=run_loadCells_list (P:=P) w ⟨bb,o+j*E.s,none⟩ (E.enc a) (λ q u hu=>by
  obtain ⟨b2,o2,hb,hw⟩:=hc _ u (hcell q u hu)
  cases hb;rw [Addr.add_lit,Nat.add_assoc];exact hw)
 rw [E.len] at hl
 have hag:(isAgg T).run P w= .ok true w:=by
  unfold dx at hT
  cases hun:P.underlying T with
  |none=>simp [hun] at hT
  |some D=>cases D<;>simp [hun] at hT<;>simp [isAgg,run_underlying hun,go_sem]
 have hsz:(sizeOf T).run P w= .ok E.s w:=by
  unfold dx at hT
  cases hin:P.info? T with
  |none=>simp [hin] at hT
  |some inf=>simp [hin] at hT;simp [sizeOf,typeInfo,hin,hT.2,go_sem]
 have hld:(Instr.loadAt T (ρ x)).run P w= .ok (E.ag a) w:=by
  simp only [Instr.loadAt,loadVar,hx',Instr.sureAddr,Sem.run_bind,Sem.run_pure,Result.andThen_ok,hag,hsz,hl,if_true]
 simp only [execOp,Sem.run_bind,hld,Result.andThen_ok,Sem.run_pure]
theorem G7 {l:List α} {j:Nat} {a:α} (hj:j<l.length):(E.all l).take (j*E.s)++E.enc a++(E.all l).drop (j*E.s+E.s)=E.all (l.set j a):=by
 have e2:l.set j a=l.take j++a::l.drop (j+1):=by rw [set_eq_take_append_cons_drop];simp [hj]
 have e3:j*E.s+E.s=(j+1)*E.s:=by rw [Nat.add_mul];omega
 rw [e2,E.all_append,E.all_cons,E.all_take,e3,E.all_drop,append_assoc]
theorem OpE.ji {x y:Operand} {T e j:Nat} {v:Value} {l:List α} {a:α} (i:Nat) (hT:dx P T E.s=true) (hs:Sat w0 cs w) (hi:cs[i]? =some (cL v e E l)) (hx:aI L x=some (bE v (j*E.s)))
  (hy:aI L y=some (E.ag a)) (hj:j<l.length) (hp:0<E.s) (hk:∀ w',Sat w0 (cs.set i (cL v e E (l.set j a))) w'->Chg (bD v) w w'->K undef w'):OpE P n L w ⟨d,.store T x y,ty,pos,af,g⟩ K:=by
 have hown:=hs.get hi
 have hal:=E.all_length l
 obtain ⟨hl,⟨rfl,hn0⟩|⟨g,cap,cur,rfl,hg0,hh,hnc,hcm,hcs,ht⟩⟩:=id hown
 ·omega
 have hjs:j*E.s+E.s<=l.length*E.s:=by
  have:(j+1)*E.s<=l.length*E.s:=Nat.mul_le_mul_right _ hj
  rw [Nat.add_mul] at this;omega
 have hcl:l.length*E.s<=cur.size:=by rw [hcs];exact Nat.mul_le_mul_right _ hnc
 have hst:=run_storeCells_at P g (j*E.s) e (E.enc a) 0 cur w hh (by rw [E.len];omega) (E.one a)
 rw [Nat.add_zero,E.len] at hst
 cases hin:P.info? T with
 |none=>unfold dx at hT;simp [hin] at hT
 |some inf=>
  have hsz:inf.size=E.s:=by unfold dx at hT;simp [hin] at hT;exact hT.2
  refine .unit (w':=w.setRow g (cur.toList.take (j*E.s)++E.enc a++cur.toList.drop (j*E.s+E.s)).toArray) (λ ρ hρ=> ?_) (hk _ (hs.set i hi ⟨rfl,rfl,rfl,by simp,λ k _ hk=>setRow_other w g k _ (λ e=>hk (by simp [cL,qh,bD,e]))⟩ ?_ (λ _ hk=> .inl hk)) ⟨rfl,rfl,rfl,by simp,λ k _ hk=>setRow_other w g k _ (λ e=>hk (by simp [bD,e]))⟩)
  ·have hx':ρ x= .pointer (some ⟨g,j*E.s,none⟩):=by rw [hρ hx];simp [bE,Addr.add_lit]
   have hrun:(Instr.storeAt T (.pointer (some ⟨g,j*E.s,none⟩)) (E.ag a)).run P w= .ok () (w.setRow g (cur.toList.take (j*E.s)++E.enc a++cur.toList.drop (j*E.s+E.s)).toArray):=by
    simp [Instr.storeAt,Instr.sureAddr,storeVar,sizeOf,typeInfo,hin,hsz,Value.cells,E.len,hst]
   simp only [execOp,hx',hρ hy,Sem.run_bind,hrun,Result.andThen_ok,Sem.run_pure]
  ·refine ⟨E.all_length _,.inr ⟨g,cap,_,?_,hg0,setRow_heap w g cur _ e _ hh,by rw [length_set];omega,hcm,?_,?_⟩⟩
   ·rw [length_set]
   ·simp only [size_toArray,length_append,length_take,length_drop,Array.length_toList,E.len]
    rw [hcs];rw [hcs] at hcl;omega
   ·rw [length_set,<-G7 hj,<-ht]
    simp only [toList_toArray]
    apply ext_getElem?
    intro q
    simp only [getElem?_take,getElem?_append,length_append,length_take,Array.length_toList,E.len,getElem?_drop,length_drop]
    rw [Nat.min_eq_left (by omega:j*E.s<=cur.size),Nat.min_eq_left (by omega:l.length*E.s<=cur.size),Nat.min_eq_left (by omega:j*E.s<=l.length*E.s)]
    by_cases h1:q<j*E.s
    ·simp [h1,show q<j*E.s+E.s by omega,show q<l.length*E.s by omega]
    ·by_cases h2:q<j*E.s+E.s
     ·simp [h1,h2,show q<l.length*E.s by omega]
     ·simp only [h1,h2,if_false]
      by_cases h3:q<l.length*E.s
      ·simp [h3,show j*E.s+E.s+(q-(j*E.s+E.s))=q by omega]
      ·simp [h3,show ¬ j*E.s+E.s+(q-(j*E.s+E.s))<l.length*E.s by omega]
theorem OpE.cD {x:Operand} {t e b:Nat} {z:Value} (E:Enc α) (a:α) (hty:SlTy P t e E.s z b) (hp:0<E.s) (hs24:E.s<=16777216) (hs:Sat w0 cs w) (hx:aI L x=some (E.ag a))
  (hk:∀ u w',Sat w0 (cs++[cL u e E [a]]) w'->Chg [] w w'->K u w'):OpE P n L w ⟨d,.buildSlice t 1 #[(0,x)],ty,pos,af,g⟩ K:=by
 obtain ⟨inf,i1,i2,i3,i4⟩:=hty.info
 have hz:=hty.zs
 refine .val (λ ρ hρ=> ?_) (hk (.slice (some ⟨w.heap.size,0,none⟩) 1 1) (w.alloc (.cells (E.enc a).toArray e)) ?_ (.alloc _ _))
 ·have hfill:∀ zc:Array Value,Instr.fill (λ i=>some (i*inf.size,inf.size)) ((Array.range (1*inf.size)).map (zc[· %zc.size]!)) [(0,E.ag a)]=some (E.enc a).toArray:=λ zc=>by
   have hf:=tt (E.enc a) 0 [] ((List.range (1*inf.size)).map (zc[· %zc.size]!)) rfl (by simp [E.len,i3])
   simp only [nil_append] at hf
   have hsz:(E.enc a).length=inf.size:=by rw [E.len,i3]
   have e1:(Array.range (1*inf.size)).map (zc[· %zc.size]!)=((List.range (1*inf.size)).map (zc[· %zc.size]!)).toArray:=by
    apply Array.ext';simp
   have e2:(List.drop (E.enc a).length ((List.range (1*inf.size)).map (zc[· %zc.size]!)))=[]:=drop_of_length_le (by simp [hsz])
   rw [e2,append_nil] at hf
   rw [e1]
   have hagc:(E.ag a).cells=(E.enc a).toArray:=rfl
   simp only [Instr.fill,hagc,Nat.zero_mul,Nat.zero_add]
   rw [if_neg (by simp [hsz])]
   have hz2:(E.enc a).toArray.zipIdx.toList=(E.enc a).zipIdx:=by simp
   rw [<-Array.foldl_toList,hz2]
   exact congrArg some hf
  have hrun:(Instr.buildSlice t 1 #[(0,E.ag a)]).run P w= .ok (.slice (some ⟨w.heap.size,0,none⟩) 1 1) (w.alloc (.cells (E.enc a).toArray e)):=by
   have hf:=hfill z.cells
   rw [i3,Nat.one_mul] at hf
   have h24:¬ 2^24<E.s:=by omega
   have h0:¬ E.s=0:=by omega
   have r1:(zeroValue e).run P w= .ok z w:=by simp [zeroValue,typeInfo,i1,i2,go_sem]
   have r2:(sizeOf e).run P w= .ok E.s w:=by simp [sizeOf,typeInfo,i1,i3,go_sem]
   have r3:(newRow e (E.enc a).toArray).run P w= .ok ⟨w.heap.size,0,none⟩ (w.alloc (.cells (E.enc a).toArray e)):=by simp [newRow,go_sem]
   simp only [Instr.buildSlice,run_underlying hty.und,r2,Sem.run_bind,Result.andThen_ok,Nat.one_mul,gt_iff_lt,h24,h0,if_false,r1,Sem.run_pure,hf,r3]
  simp only [execOp,map_toArray,map_cons,map_nil,hρ hx,Sem.run_bind,hrun,Result.andThen_ok,Sem.run_pure]
 ·have h:=hs.wK e E.s 1 1 (E.enc a) (by unfold maxLen;omega) (Nat.le_refl _) (by rw [E.len];omega)
  unfold cL
  rw [E.all_one]
  rw [take_of_length_le (by rw [E.len];omega)] at h
  exact h
theorem OpE.bO {x y:Operand} {T i b:Nat} {U:TypeId} {cells vs:List Value} (hT:dx P T vs.length=true) (hs:Sat w0 cs w) (hi:cs[i]? =some (aj b U cells)) (hl:vs.length=cells.length) (hx:aI L x=some (.pointer (some ⟨b,0,none⟩)))
  (hy:aI L y=some (.agg vs.toArray)) (h1:∀ v∈vs,v.oneCell'=true) (hk:∀ w',Sat w0 (cs.set i (aj b U vs)) w'->Chg [b] w w'->K undef w'):OpE P n L w ⟨d,.store T x y,ty,pos,af,g⟩ K:=by
 have hh:w.heap[b]? =some (.cells cells.toArray U (0,0)):=hs.get hi
 have hst:=run_storeCells_at P b 0 U vs 0 cells.toArray w hh (by simp;omega) h1
 have hcur:(cells.toArray.toList.take (0+0)++vs++cells.toArray.toList.drop (0+0+vs.length))=vs:=by simp [hl]
 rw [hcur] at hst
 cases hin:P.info? T with
 |none=>unfold dx at hT;simp [hin] at hT
 |some inf=>
  have hsz:inf.size=vs.length:=by unfold dx at hT;simp [hin] at hT;exact hT.2
  refine .unit (w':=w.setRow b vs.toArray) (λ ρ hρ=> ?_) (hk _ (hs.set i hi ⟨rfl,rfl,rfl,by simp,λ k _ hk=>setRow_other w b k _ (λ e=>hk (by simp [aj,e]))⟩ (setRow_heap w b _ _ U _ hh) (λ _ hk=> .inl hk)) ⟨rfl,rfl,rfl,by simp,λ k _ hk=>setRow_other w b k _ (λ e=>hk (by simp [e]))⟩)
  have hrun:(Instr.storeAt T (.pointer (some ⟨b,0,none⟩)) (.agg vs.toArray)).run P w= .ok () (w.setRow b vs.toArray):=by
   simp [Instr.storeAt,Instr.sureAddr,storeVar,sizeOf,typeInfo,hin,hsz,Value.cells,hst]
  simp only [execOp,hρ hx,hρ hy,Sem.run_bind,hrun,Result.andThen_ok,Sem.run_pure]
theorem vO (t e:TypeId) (a:Option Addr) (m c:Nat) (h:P.underlying t=some (.slice e)) (w:World):(binOp .eql t (.slice a m c) (.slice none 0 0)).run P w= .ok (.bool a.isNone) w:=by
 have:∀ d,(Op.equalIn (d+1) t (.slice a m c) (.slice none 0 0)).run P w= .ok a.isNone w:=λ d=>by cases a<;>simp [Op.equalIn,run_underlying h]
 simp only [binOp]
 simp [Op.equal,Op.maxDepth,this 9999]
section
variable {x y:Operand} {t e T:TypeId} {v:Value} {m:Nat}
theorem Ev.Ni (hu:P.underlying t=some (.slice e)) (hx:aI L x=some v) (hy:aI L y=some (.slice none 0 0)) (h:P8 v m) (hm:0<m):Ev P n L w ⟨d,.binOp .eql t x y T,ty,pos,af,g⟩ (.bool false):=by
 obtain ⟨a,c,rfl,ha⟩:=h
 obtain ⟨b,o,rfl⟩:=ha hm
 exact .bin hx hy (by rfl) λ w=>vO t e _ m c hu w
end
theorem cells_one {v:Value} (h:v.oneCell'=true):v.cells.toList=[v]:=by cases v<;>first|rfl|cases h
theorem Ev.pT {x:Operand} {f:FuncId} {v:Value} (hx:aI L x=some v):Ev P n L w ⟨d,.makeFunc (.func f) #[] #[x],ty,pos,af,g⟩ (.func (.func f) #[] #[v]):= .of λ ρ hρ=>by
 simp [execOp,Instr.makeFunc,hρ hx,go_sem]
theorem Ev.kq {x y:Operand} {z:Int} {p:Prop} [Decidable p] {k:IntKind} {o:TypeId} {T:TypeId} (hx:aI L x=some (.int k z)) (hy:aI L y=some (.int k 0)) (hz:z<0↔p):
  Ev P n L w ⟨d,.binOp .lss o x y T,ty,pos,af,g⟩ (.bool (decide p)):=by
 have:decide p=decide (z<0):=by simp [hz]
 rw [this]
 exact Ev.lss hx hy
end
structure SV where
 a:Option Addr
 n:Nat
 c:Nat
@[reducible] def SV.val (s:SV):Value:= .slice s.a s.n s.c
theorem RdL.sv {α:Type} {w:World} {v:Value} {E:Enc α} {l:List α} (h:RdL w v E l):∃ s:SV,v=s.val/\s.n=l.length:=by
 obtain ⟨a,cap,rfl,_⟩:=h
 exact ⟨⟨a,l.length,cap⟩,rfl,rfl⟩
def kY (cs:List Chunk):Chunk where
 foot:=cs.flatMap Chunk.foot
 holds w:=(∀ c∈cs,c.holds w)/\cs.Pairwise λ (c d:Chunk)=>∀ k∈c.foot,k∉d.foot
 stable w w' h hc:=⟨λ c hm=>c.stable w w' (λ k hk=>h k (mem_flatMap.2 ⟨c,hm,hk⟩)) (hc.1 c hm),hc.2⟩
theorem Sat.ij {w0 w:World} {P ds Q:List Chunk}:Sat w0 (P++kY ds::Q) w↔Sat w0 (P++(ds++Q)) w:=by
 constructor
 ·intro h
  have hA:=h.holds (kY ds) (by simp)
  have hp:=pairwise_append.1 h.apart
  have hq:=pairwise_cons.1 hp.2.1
  refine ⟨h.old,λ c hc=> ?_,?_⟩
  ·simp only [mem_append] at hc
   rcases hc with hc|hc|hc
   ·exact h.holds c (by simp [hc])
   ·exact ⟨hA.1.1 c hc,λ k hk=>hA.2 k (mem_flatMap.2 ⟨c,hc,hk⟩)⟩
   ·exact h.holds c (by simp [hc])
  ·rw [pairwise_append,pairwise_append]
   refine ⟨hp.1,⟨hA.1.2,hq.2,λ c hc d hd k hk=>hq.1 d hd k (mem_flatMap.2 ⟨c,hc,hk⟩)⟩,λ c hc d hd k hk hk2=> ?_⟩
   rcases mem_append.1 hd with hd|hd
   ·exact hp.2.2 c hc (kY ds) (by simp) k hk (mem_flatMap.2 ⟨d,hd,hk2⟩)
   ·exact hp.2.2 c hc d (by simp [hd]) k hk hk2
 ·intro h
  have hp:=pairwise_append.1 h.apart
  have hq:=pairwise_append.1 hp.2.1
  refine ⟨h.old,λ c hc=> ?_,?_⟩
  ·simp only [mem_append,mem_cons] at hc
   rcases hc with hc|rfl|hc
   ·exact h.holds c (by simp [hc])
   ·refine ⟨⟨λ c hc=>(h.holds c (by simp [hc])).1,hq.1⟩,λ k hk=> ?_⟩
    obtain ⟨c,hc,hk⟩:=mem_flatMap.1 hk
    exact (h.holds c (by simp [hc])).2 k hk
   ·exact h.holds c (by simp [hc])
  ·rw [pairwise_append,pairwise_cons]
   refine ⟨hp.1,⟨λ d hd k hk hk2=> ?_,hq.2.1⟩,λ c hc d hd k hk hk2=> ?_⟩
   ·obtain ⟨c,hc,hk⟩:=mem_flatMap.1 hk
    exact hq.2.2 c hc d hd k hk hk2
   ·rcases mem_cons.1 hd with rfl|hd
    ·obtain ⟨d,hd,hk2⟩:=mem_flatMap.1 hk2
     exact hp.2.2 c hc d (by simp [hd]) k hk hk2
    ·exact hp.2.2 c hc d (by simp [hd]) k hk hk2
theorem Sat.push {w0 w:World} {A ds:List Chunk} {d:Chunk} (h:Sat w0 (A++[d]) w) (i:Nat) (hi:A[i]? =some (kY ds)):Sat w0 (A.set i (kY (ds++[d]))) w:=by
 obtain ⟨hil,hid⟩:=List.getElem?_eq_some_iff.1 hi
 have e1:A=A.take i++kY ds::A.drop (i+1):=by rw [<-hid];simp
 rw [e1,append_assoc,cons_append,Sat.ij] at h
 rw [set_eq_take_append_cons_drop,if_pos hil,Sat.ij]
 refine h.perm (List.Perm.append_left _ ?_)
 rw [append_assoc]
 exact List.Perm.append_left _ perm_append_comm
section
variable {α:Type} {E:Enc α} {e:Nat} {w0 w:World} {cs:List Chunk}
def bm (e:Nat) (E:Enc α) (ps:List (SV×List α)):Chunk:=kY (ps.map λ p=>cL p.1.val e E p.2)
theorem Sat.xS (h:Sat w0 cs w) (e:Nat) (E:Enc α):Sat w0 (cs++[bm e E []]) w:=by
 have:Sat w0 (cs++kY []::[]) w:=Sat.ij.2 (by simpa using h)
 exact this
theorem Sat.uw {A:List Chunk} {s:SV} {l:List α} {ps:List (SV×List α)} (h:Sat w0 (A++[cL s.val e E l]) w) (i:Nat) (hi:A[i]? =some (bm e E ps)):Sat w0 (A.set i (bm e E (ps++[(s,l)]))) w:=by
 have:=h.push i hi
 rw [bm,map_append];exact this
theorem Sat.eu (h:Sat w0 cs w) (i:Nat) {ps:List (SV×List α)} (hi:cs[i]? =some (bm e E ps)) {k:Nat} {p:SV×List α} (hk:ps[k]? =some p):RdL w p.1.val E p.2:=by
 have:=(h.get hi).1 (cL p.1.val e E p.2) (mem_map_of_mem (mem_of_getElem? hk))
 exact Rd.uC this
def bK (α:Type):Enc (SV×List α):=⟨1,λ p=>[p.1.val],λ _=>rfl,λ p v h=>by simp at h;rw [h];rfl⟩
end
section
variable {P:Program} {n:Nat} {L:ay} {w:World} {K:Value->World->Prop} {d:Option Nat} {ty:TypeId} {pos:String} {af:Array Edge} {g:Option (Nat×Bool)}
theorem Ev.gn {x:Operand} {f:FuncId} {v:Value} (hx:aI L x=some v):Ev P n L w ⟨d,.makeFunc (.func f) #[x] #[],ty,pos,af,g⟩ (.func (.func f) #[v] #[]):= .of λ ρ hρ=>by
 simp [execOp,Instr.makeFunc,hρ hx,go_sem]
theorem OpE.wE {t:Nat} {f:FuncId} {fst cap:Array Value} {xs:List Operand} {ats:Array TypeId} {vs:List Value}
  (hf:Enters P f) (ht:look L t=some (.func (.func f) fst cap)) (hx:pf L xs=some vs) (h:CallsV P f (fst.toList++vs++cap.toList) w K):OpE P n L w ⟨d,.call ⟨.value (.tmp t),xs.toArray,ats⟩,ty,pos,af,g⟩ K:=λ a ha next Q hk=>by
 have he:=ha.Af hx
 have hv:a.eval (.tmp t)= .func (.func f) fst cap:=ha.eval ht
 have hrun:(execOp a.eval ⟨d,.call ⟨.value (.tmp t),xs.toArray,ats⟩,ty,pos,af,g⟩).run P w= .ok (.enter f (fst.toList++vs++cap.toList).toArray) w:=by
  have hm:xs.toArray.map a.eval=vs.toArray:=by simp [he]
  have:=hf (fst.toList++vs++cap.toList).toArray w
  have hc:fst++vs.toArray++cap=(fst.toList++vs++cap.toList).toArray:=by simp
  simp only [execOp,resolve,hm,hv,Deferred.ofValue,bind,Sem.bind,pure,invoke,hc]
  simpa only [Sem.run] using this
 simp only [Oper.wp,hrun,Oper.upon]
 refine Calls.mono h λ e w' ⟨v,he',hv⟩=> ?_
 subst he'
 exact hk v w' hv
end
end Go.Kw
