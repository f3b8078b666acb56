/-Short names for theorems of the library. -/
import Derived.WalkKit
set_option linter.all false
universe u
namespace Go
abbrev Value.I(x:Int):Value:=.int .i64 x
abbrev Value.P(g:Nat):Value:=.pointer (some ⟨g,0,none⟩)
abbrev Value.N:Value:=.slice none 0 0
def ut{α:Type}(l:List α)(k:Nat)(h:k<l.length):∃ x,l[k]? =some x:=⟨_,List.getElem?_eq_getElem h⟩
def aC9{P:Prop}(h:P:=by repeat (first|exact trivial|refine⟨bR,?_⟩)):P:=h
def t7{L:List Value}(h:(L.all Value.oneCell')=true:=by exact rfl):∀ v∈L,v.oneCell'=true:=List.all_eq_true.1 h
def ro:List Value->Prop
 |[]=>True
 |v::r=>v.oneCell'=true/\ro r
def t8:∀{L:List Value},ro L->∀ v∈L,v.oneCell'=true
 |_::_,h,_,.head _=>h.1
 |_::_,h,v,.tail _ m=>t8 h.2 v m
end Go
namespace Go.Proofs.YtcgidfgdbhihbaaGreatDoor
def Y{α:Sort u}{a:α}:a=a:=rfl
def py:=@List.getElem?_eq_getElem
def AT:=@List.length_append
def If:=@congrArg
def IN:=@decide_eq_false
def KC:=@List.getElem?_eq_some_iff
def KD:=@Nat.zero_le
def KM:=@Nat.le_refl
def KP:=@List.length_singleton
def KV:=@List.getD_eq_getElem?_getD
def KW:=@List.append_assoc
def LW:=@decide_eq_true
def No:=@List.length_cons
def Xn:=@if_neg
def Xo:=@List.length_take
def Xp:=@if_pos
def Xq:=@List.not_mem_nil
def Xr:=@List.mem_cons
def Xs:=@List.mem_of_getElem?
def Xt:=@List.length_set
def Xu:=@List.length_map
def Xv:=@List.length_nil
def Xw:=@Go.Result.andThen_ok
def Xx:=@List.take_of_length_le
def Xy:=@Go.run_underlying
def Xz:=@Bool.and_eq_true
def XA:=@or_false
def XB:=@ByteArray.size_extract
def XC:=@Go.Sem.run_bind
def XD:=@List.length_drop
def XE:=@List.mem_append
def XF:=@List.getElem?_map
def XG:=@Go.Sem.run_pure
def XH:=@List.take_length
def XI:=@Nat.lt_or_ge
def XJ:=@List.mem_singleton
def XK:=@List.getElem?_append_left
def XL:=@Nat.le_trans
def XM:=@List.eq_nil_of_length_eq_zero
def XN:=@Nat.mod_eq_of_lt
def XO:=@Prod.mk.injEq
def XP:=@List.getElem?_append_right
def XQ:=@List.getElem?_eq_none
def XR:=@of_decide_eq_true
def XS:=@decide_eq_true_eq
def XU:=@Nat.zero_add
def XV:=@List.take_append_drop
def XW:=@Nat.le_of_ble_eq_true
def XX:=@List.mem_of_mem_take
def XY:=@List.pairwise_cons
def XZ:=@List.map_cons
def Y0:=@List.map_append
def Y1:=@Nat.pow_le_pow_right
def Y2:=@List.set_append_right
def Y3:=@Decidable.not_not
def Y4:=@Nat.sub_self
def Y5:=@Nat.min_eq_left
def Y6:=@List.all_eq_true
def Y7:=@List.mem_map
def Y8:=@Option.some.inj
def Y9:=@List.getElem?_of_mem
def Ya:=@List.mem_cons_of_mem
def Yb:=@List.mem_append_right
def Yc:=@Nat.add_mul
def Yd:=@Go.eqGuard_at_int
def Ye:=@List.mem_map_of_mem
def Yf:=@List.mem_of_mem_drop
def Yg:=@Go.Addr.add_lit
def Yh:=@Nat.add_sub_cancel
def Yi:=@List.getElem?_set_self
def Yj:=@Nat.mul_one
def Yk:=@Nat.add_sub_cancel_left
def Yl:=@List.drop_eq_getElem_cons
def Ym:=@decide_eq_decide
def Yn:=@Nat.div_le_self
def Yo:=@List.drop_of_length_le
def Yp:=@List.mem_cons_self
def Yq:=@Bool.false_eq_true
def Yr:=@List.append_nil
def Ys:=@Array.getD_eq_getD_getElem?
def Yt:=@Nat.two_pow_pos
def Yu:=@List.getElem?_take
def Yv:=@Nat.eq_zero_or_pos
def Yw:=@Nat.eq_of_beq_eq_true
def Yx:=@Classical.byContradiction
def Yy:=@if_false
def Yz:=@Option.map_eq_some_iff
def YA:=@Nat.pow_succ
def YB:=@Option.some.injEq
def YC:=@Bool.eq_false_or_eq_true
def YD:=@List.filter_eq_nil_iff
def YE:=@List.filter_cons_of_pos
def YF:=@List.filter_append
def YG:=@Nat.add_assoc
def YH:=@Nat.mul_le_mul_right
def YI:=@List.getElem?_drop
def YJ:=@List.pairwise_iff_getElem
def YK:=@List.range_succ
def YL:=@Array.length_toList
def YM:=@List.mem_append_left
def YN:=@List.take_succ_cons
def YO:=@List.set_eq_take_append_cons_drop
def YP:=@Nat.add_zero
def YQ:=@List.getElem?_set
def YR:=@List.drop_zero
def YS:=@Go.Calls.mono
def YT:=@List.mem_or_eq_of_mem_set
def YU:=@List.pairwise_append
def YV:=@Go.MapKept.run_getObj_map
def YW:=@List.nil_append
def YX:=@List.find?_cons_of_neg
def YY:=@of_decide_eq_false
def YZ:=@Option.getD_some
def Z0:=@Nat.one_mul
def Z1:=@List.getElem?_replicate
def Z2:=@List.filter_cons_of_neg
def Z3:=@List.mem_filter
def Z4:=@List.mem_flatMap
def Z5:=@Array.getElem?_eq_some_iff
def Z6:=@Option.map_some
def Z7:=@if_true
def Z8:=@List.filter_eq_self
def Z9:=@Array.getElem?_modify
def Za:=@List.eq_of_mem_replicate
def Zb:=@List.Perm.append_left
def Zc:=@List.cons_append
def Zd:=@Nat.mul_assoc
def Ze:=@Go.run_loadCells_list
def Zf:=@List.length_replicate
def Zg:=@List.foldl_cons
def Zh:=@List.mem_iff_getElem?
def Zi:=@Int.toNat_natCast
def Zj:=@Option.bind_eq_some_iff
def Zk:=@List.map_toArray
def Zl:=@List.map_congr_left
def Zm:=@Nat.mul_lt_mul_of_pos_right
def Zn:=@List.getElem?_set_ne
def Zo:=@beq_iff_eq
def Zp:=@Nat.mod_lt
def Zq:=@Nat.one_lt_two_pow
def Zr:=@Nat.mod_two_eq_zero_or_one
def Zs:=@List.flatMap_cons
def Zt:=@List.mem_range
def Zu:=@Go.heap_alloc_new
def Zv:=@Option.isNone_iff_eq_none
def Zw:=@Nat.not_lt_zero
def Zx:=@List.replicate_succ
def Zy:=@List.map_nil
def Zz:=@Nat.or_lt_two_pow
def ZA:=@Go.MapKept.run_checkKey
def ZB:=@List.any_eq_true
def ZC:=@List.ext_getElem?
def ZD:=@List.take_add_one
def ZE:=@List.length_eq_one_iff
def ZF:=@Nat.le_mul_of_pos_right
def ZG:=@Nat.le_of_not_lt
def ZH:=@Nat.succ_ne_zero
def ZI:=@Go.MapKept.run_findKey
def ZJ:=@Go.ByteArray.toList_eq
def ZK:=@Go.MapKept.heap_set
def ZL:=@Go.wpOp_mono
def ZM:=@Nat.lt_of_lt_of_le
def ZN:=@Nat.mul_comm
def ZO:=@List.set_getElem_self
def ZP:=@List.perm_append_comm
def ZQ:=@List.getElem?_range
def ZR:=@Prod.ext
def ZS:=@Array.getElem?_toList
def ZT:=@List.map_map
def ZU:=@Nat.lt_trichotomy
def ZV:=@Function.comp_def
def ZW:=@List.size_toArray
def ZX:=@List.getElem?_cons_succ
def ZY:=@BitVec.ofInt_natCast
def ZZ:=@iff_of_false
def a0a:=@List.find?_cons_of_pos
def a0b:=@cond_true
def a0c:=@Go.getD_set_ne
def a0d:=@List.map_take
def a0e:=@Go.setRow_other
def a0f:=@List.length_filter_le
def a0g:=@BitVec.toNat_ofNat
def a0h:=@Nat.pow_add
def a0i:=@List.set_append_left
def a0j:=@Nat.sub_zero
def a0k:=@Go.BigFrame.execOp_builtin
def a0l:=@List.length_eq_zero_iff
def a0m:=@List.getElem_mem
def a0n:=@List.filter_cons
def a0o:=@Go.MapKept.run_setObj_map
def a0p:=@Go.wp_mono
def a0q:=@List.flatMap_append
def a0r:=@List.length_range
def a0s:=@Nat.xor_assoc
def a0t:=@Bool.eq_iff_iff
def a0u:=@UInt8.toNat_inj
def a0v:=@Option.map_none
def a0w:=@Nat.mul_le_mul_left
def a0x:=@Go.Region.noSelect_spec
def a0y:=@Decidable.em
def a0z:=@Nat.zero_mul
def a00:=@List.drop_length
def a01:=@List.ext_getElem
def a02:=@List.sum_cons
def a03:=@List.getElem?_zip_eq_some
def a04:=@Nat.lt_of_le_of_lt
def a05:=@Nat.blt_eq
def a06:=@Bool.and_false
def a07:=@Go.wpIn_mono
def a08:=@List.getElem?_take_of_lt
def a09:=@List.set_set
def a1a:=@Bool.eq_false_iff
def a1b:=@List.take_succ_eq_append_getElem
def a1c:=@Nat.le_succ_of_le
def a1d:=@Bool.not_eq_true'
def a1e:=@Bool.true_and
def a1f:=@List.length_take_le
def a1g:=@List.length_pos_iff
def a1h:=@List.countP_eq_zero
def a1i:=@Go.run_storeCells_at
def a1j:=@Nat.div_eq_of_lt
def a1k:=@List.sublist_cons_self
def a1l:=@List.Perm.append_right
def a1m:=@Array.getElem?_eq_none
def a1n:=@decide_false
def a1o:=@Nat.add_comm
def a1p:=@List.map_singleton
def a1q:=@Go.Region.free_spec
def a1r:=@List.Pairwise.sublist
def a1s:=@Array.getElem?_append
def a1t:=@Nat.mul_le_mul
def a1u:=@Int.le_refl
def a1v:=@Array.toList_extract
def a1w:=@Nat.div_le_div_right
def a1x:=@gt_iff_lt
def a1y:=@List.pairwise_map
def a1z:=@List.sum_append
def a10:=@Nat.add_le_add_left
def a11:=@Array.toList_filter
def a13:=@List.getElem?_append
def a14:=@List.mem_iff_getElem
def a15:=@Nat.lt_irrefl
def a16:=@Go.setRow_heap
def a18:=@Array.ext'
def a19:=@Int.natCast_nonneg
def a2a:=@Bool.true_eq_false
def a2b:=@List.take_left
def a2c:=@and_true
def a2d:=@List.Sublist.refl
def a2e:=@Nat.pow_zero
def a2f:=@Nat.min_eq_right
def a2g:=@Nat.le_add_right
def a2h:=@List.countP_append
def a2i:=@List.nodup_cons
def a2j:=@Go.callsIn_wide
def a2k:=@List.countP_cons_of_pos
def a2l:=@List.countP_cons_of_neg
def a2m:=@List.cons.injEq
def a2n:=@Int.natCast_mul
def a2o:=@Nat.div_add_mod
def a2p:=@List.drop_eq_nil_of_le
def a2q:=@List.take_sublist
def a2r:=@Go.grownCap_ge
def a2s:=@List.drop_left
def a2t:=@List.countP_le_length
def a2u:=@List.take_zero
def a2v:=@List.drop_drop
def a2w:=@List.flatMap_map
def a2x:=@List.perm_middle
def O{P:Prop}(h:P:=by omega):P:=h
def F{P:Prop}(h:P:=by kernel_rfl):P:=h
def bl{P:Prop}(h:P:=by decide):P:=h
def bw{P:Prop}(h:P:=by simp):P:=h
def bR{P:Prop}(h:P:=by first|rfl|omega|(simp only[IntKind.bits];omega)):P:=h
def cf{P:Prop}(h:P:=by simp;omega):P:=h
def dd{P:Prop}(h:P:=by(try simp only[AT]);omega):P:=h
def dv{P:Prop}(h:P:=by simp only[KP];omega):P:=h
def eg{P:Prop}(h:P:=by first|omega|(simp only[Xt];omega)):P:=h
def en{P:Prop}(h:P:=by unfold bh;omega):P:=h
def ey{P:Prop}(h:P:=by(try simp only[IntKind.bits]);omega):P:=h
def fa{P:Prop}(h:P:=by simp only[AT,Xo,XD,No,Xv,Xu]at*;omega):P:=h
def ff{P:Prop}(h:P:=by(try simp only[AT,No,Xv]);omega):P:=h
def fr{P:Prop}(h:P:=by(try simp only[AT,aB,XB]);omega):P:=h
def ft{P:Prop}(h:P:=by simp only[AT,KP];omega):P:=h
def gv{P:Prop}(h:P:=by first|omega|(simp;omega)):P:=h
def hJ{P:Prop}(h:P:=by simp only[AT];omega):P:=h
def mv{P:Prop}(h:P:=by simp only[AT,Xo,No,Xv];omega):P:=h
def oi{P:Prop}(h:P:=by first|omega|(simp;omega)|(rw[dE (by omega)];omega)|(simp only[Xt];omega)):P:=h
def ra{P:Prop}(h:P:=by simpa using h):P:=h
def se{P:Prop}(h:P:=by rw[AT];omega):P:=h
def sp{P:Prop}(h:P:=by simp[g1]):P:=h
def ss{P:Prop}(h:P:=by first|(have:=d.len;omega)|(rw[Xt];have:=d.len;omega)):P:=h
def sT{P:Prop}(h:P:=by(try simp only[Xt]);assumption):P:=h
def tb{P:Prop}(h:P:=by simp only[AT,Xo,XD,No,Xv];omega):P:=h
def te{P:Prop}(h:P:=by simpa using H):P:=h
def tp{P:Prop}(h:P:=by simp only[AT,Xu,Xo,XD]at*;omega):P:=h
def uT{P:Prop}(h:P:=by(try simp only[Xt]);omega):P:=h
def vp{P:Prop}(h:P:=by(try simp only[AT,Xv,aB]);omega):P:=h
def wv{P:Prop}(h:P:=by dsimp only;omega):P:=h
def yk{P:Prop}(h:P:=by have:=H.len;simp;omega):P:=h
def zc{P:Prop}(h:P:=by simp[H]):P:=h
def LS{P:Prop}(h:P:=by have h8:=aF (k+1-b);have h9:=aF (x/2^W);(try simp only[AT]);omega):P:=h
def UC{P:Prop}(h:P:=by rw[AT];simp only[KP];omega):P:=h
def a0A{P:Prop}(h:P:=by simp only[AT,aK];omega):P:=h
def a0B{P:Prop}(h:P:=by unfold maxLen;omega):P:=h
def a0C{P:Prop}(h:P:=by unfold n0;simp only;omega):P:=h
def a0D{P:Prop}(h:P:=by assumption):P:=h
def a0E{P:Prop}(h:P:=by unfold HV;exact Ym.2 ⟨λ h=>h.elim (λ h=>h.elim .inl (λ h=>.inr (.inl h))) (λ h=>.inr (.inr h)),λ h=>h.elim (λ h=>.inl (.inl h)) (λ h=>h.elim (λ h=>.inl (.inr h)) .inr)⟩):P:=h
def a0F{P:Prop}(h:P:=by rw[underlying106]<;>rfl):P:=h
def a0G{P:Prop}(h:P:=by simp[g]):P:=h
def a0H{P:Prop}(h:P:=by simp only;omega):P:=h
def a0I{P:Prop}(h:P:=by simpa using d):P:=h
def a0J{P:Prop}(h:P:=by simp only[AT,aB,XB];omega):P:=h
def a0K{P:Prop}(h:P:=by simpa[Plan.depth]using hd):P:=h
def a0L{P:Prop}(h:P:=by(try simp only[AT]);simp;omega):P:=h
def a0M{P:Prop}(h:P:=by rfl):P:=h
def a0N{P:Prop}(h:P:=by simpa using g):P:=h
def a0P{P:Prop}(h:P:=by simp[p]):P:=h
def a0Q{P:Prop}(h:P:=by(try simp only[AT]);simp only[AT]at H;omega):P:=h
def a0R{P:Prop}(h:P:=by(try simp only[AT]);simp only[AT]at o;omega):P:=h
def a0S{P:Prop}(h:P:=by simp only[IntKind.bits];omega):P:=h
def a0T{P:Prop}(h:P:=by simpa using q):P:=h
def a0U{P:Prop}(h:P:=by have:=cH (s.data.toList.drop i);omega):P:=h
def a0V{P:Prop}(h:P:=by simp[i]):P:=h
def a0W{P:Prop}(h:P:=by simpa using ho):P:=h
def a0X{P:Prop}(h:P:=by simp[g1,g2]):P:=h
def a0Y{P:Prop}(h:P:=by have:=vd H;simpa[st1,d]using this):P:=h
def a0Z{P:Prop}(h:P:=by rw[tK];omega):P:=h
def a1A{P:Prop}(h:P:=by rw[Xo];omega):P:=h
def a1B{P:Prop}(h:P:=by have e:(jc x.v).length=(cI x.nm++(uv (x.e-x.b).toNat++rS x.ps)).length:=rfl;simp only[AT]at e⊢;omega):P:=h
def a1C{P:Prop}(h:P:=by rw[underlying102]<;>rfl):P:=h
def a1D{P:Prop}(h:P:=by simp only[AT,Xu,No,Xv]at*;omega):P:=h
def a1E{P:Prop}(h:P:=by have:=cH (s.data.toList.drop i);have:=ee H;omega):P:=h
def a1F{P:Prop}(h:P:=by simpa using c4):P:=h
def a1G{P:Prop}(h:P:=by have h1:=aF sn;have h2:=aF (lexB u).length;have h3:=aF (cw l).length;unfold mB;simp only[AT];omega):P:=h
def a1H{P:Prop}(h:P:=by simp[u]):P:=h
def a1I{P:Prop}(h:P:=by have:=H.len;omega):P:=h
def a1J{P:Prop}(h:P:=by simp[g2]):P:=h
def a1K{P:Prop}(h:P:=by have h9:=qm (x+1-b);have h8:=bitLen_le64 (x+1-b);have h7:=bitLen_le64 (Lib.bitLen (x+1-b));omega):P:=h
def a1M{P:Prop}(h:P:=by simpa using y):P:=h
def a1N{P:Prop}(h:P:=by rw[ao i,gQ,<-d];simp[jK,kr,p]):P:=h
def a1O{P:Prop}(h:P:=by decide+kernel):P:=h
def a1P{P:Prop}(h:P:=by simp[d]):P:=h
def a1Q{P:Prop}(h:P:=by simp at d;omega):P:=h
def a1R{P:Prop}(h:P:=by first|exact n1 _ _|(simp only[IntKind.bits];have:=Yn 128 (2^(bits.length%2^3));omega)):P:=h
def a1S{P:Prop}(h:P:=by first|omega|(have:=H.m4 (by omega);omega)):P:=h
def a1T{P:Prop}(h:P:=by first|omega|(rw[Xt];omega)):P:=h
def a1U{P:Prop}(h:P:=by simp[dQ,dm,Enc.ag,hpn,hqn]):P:=h
def a1V{P:Prop}(h:P:=by rw[Y0,h5,a0d,a0d,uz t _ (wo x) (wo y) (by rw[XF,R]<;>rfl) (by rw[XF,hy]<;>rfl)];rfl):P:=h
def a1W{P:Prop}(h:P:=by have:=ho.len;omega):P:=h
def a1X{P:Prop}(h:P:=by unfold jC;rw[show dH W l=(k,bits,E,c,b) by rw[<-t,show k=l.length by omega,XH]]):P:=h
def a1Y{P:Prop}(h:P:=by first|exact(LW (.inl E)).symm|exact Ym.2 ⟨.inr,λ h=>h.resolve_left E⟩):P:=h
def a1Z{P:Prop}(h:P:=by simp only[Xu]at*;omega):P:=h
def a2y{P:Prop}(h:P:=by first|(simp[o,g2,g3,g4,g5,g6,g7];done)|(simp[o,g2,g3,g4,g5,g6,g7];omega)):P:=h
def a2z{P:Prop}(h:P:=by rw[Xt];omega):P:=h
def a2A{P:Prop}(h:P:=by simpa[or_assoc]using p):P:=h
def a2B{P:Prop}(h:P:=by rw[dx,<-g];simp[st1,d]):P:=h
def a2C{P:Prop}(h:P:=by have H:(aU (aU (aW (aU s).2).2).2).2=(true,_):=A4.2 q;rw[H]at y;cases y):P:=h
def a2D{P:Prop}(h:P:=by have:=ec D;simp;omega):P:=h
def a2E{P:Prop}(h:P:=by simpa using hok.1.1.2):P:=h
def a2F{P:Prop}(h:P:=by simp[q]):P:=h
def a2G{P:Prop}(h:P:=by have h8:=(KC.1 hd).1;have h7:s.data.toList.length=s.size:=rfl;omega):P:=h
def a2H{P:Prop}(h:P:=by cases q):P:=h
def a2I{P:Prop}(h:P:=by cases e):P:=h
def a2J{P:Prop}(h:P:=by first|(simp[o,g2,g3,g4,g5,g8];done)|(simp[o,g2,g3,g4,g5,g8];omega)):P:=h
def a2K{P:Prop}(h:P:=by simpa using hj):P:=h
def a2L{P:Prop}(h:P:=by simpa using hx):P:=h
def a2M{P:Prop}(h:P:=by have:=cH (s.data.toList.drop i);simp only[AT,Xu,No,Xv]at*;omega):P:=h
def a2N{P:Prop}(h:P:=by simp[newRow,go_sem]):P:=h
def a2O{P:Prop}(h:P:=by simp[g3]):P:=h
def a2P{P:Prop}(h:P:=by simpa using o):P:=h
def a2Q{P:Prop}(h:P:=by simpa using l):P:=h
def a2R{P:Prop}(h:P:=by rw[e5];exact y3 (P:=λ s l=>RdL w1 s.val aV l) qa.xr qb.xr):P:=h
def a2S{P:Prop}(h:P:=by rw[e4];exact y3 (P:=λ s l=>RdL w1 s.val aV l) qa.rr qb.rr):P:=h
def a2T{P:Prop}(h:P:=by cases h):P:=h
def a2U{P:Prop}(h:P:=by have:=d.len;omega):P:=h
def a2V{P:Prop}(h:P:=by simp[k]):P:=h
def a2W{P:Prop}(h:P:=by rw[t.1.fo];omega):P:=h
def a2X{P:Prop}(h:P:=by first|exact A|(intro x N;exact k x (by rw[H];exact N))):P:=h
def a2Y{P:Prop}(h:P:=by simpa using c1.2):P:=h
def a3a{P:Prop}(h:P:=by simp[jf]):P:=h
def a3b{P:Prop}(h:P:=by simp[he]):P:=h
def a3d{P:Prop}(h:P:=by rw[E.len];omega):P:=h
def a3f{P:Prop}(h:P:=by rw[H];simp):P:=h
def a3g{P:Prop}(h:P:=by have:=cH (s.data.toList.drop i);have:=ee o;omega):P:=h
def a3h{P:Prop}(h:P:=by have:=d.len;simp;omega):P:=h
def a3i{P:Prop}(h:P:=by simp[T]):P:=h
def a3j{P:Prop}(h:P:=by rw[underlying21]<;>rfl):P:=h
def a3k{P:Prop}(h:P:=by rw[h9];decide):P:=h
def a3l{P:Prop}(h:P:=by rw[underlying3]<;>rfl):P:=h
def a3m{P:Prop}(h:P:=by simpa using A):P:=h
def a3n{P:Prop}(h:P:=by show _*1=_;simp;omega):P:=h
def a3o{P:Prop}(h:P:=by rw[h];rfl):P:=h
def a3p{P:Prop}(h:P:=by first|(have:=(d2 (by omega)).2;omega)|omega):P:=h
def a3q{P:Prop}(h:P:=by rw[g];exact If some (Y3.1 λ h=>y (.inr h))):P:=h
def a3r{P:Prop}(h:P:=by have u:=fU (k+1-b);have y:=fU (x/2^W);omega):P:=h
def a3s{P:Prop}(h:P:=by have:=h.el x H;omega):P:=h
def a3t{P:Prop}(h:P:=by have:=this.2.2;omega):P:=h
def a3u{P:Prop}(h:P:=by rw[show p.1=q.1 by simpa using c5,mZ];simp):P:=h
def a3v{P:Prop}(h:P:=by rw[aO];omega):P:=h
def a3w{P:Prop}(h:P:=by rw[<-ho.lv,<-hl,Xu]):P:=h
def a3y{P:Prop}(h:P:=by simp[Region.wanted]):P:=h
def a3z{P:Prop}(h:P:=by rw[h.len.1];exact d):P:=h
def a3A{P:Prop}(h:P:=by simp[g2,g3]):P:=h
def a3B{P:Prop}(h:P:=by have R:=c2;rw[H,d]at R;simpa[kG]using R):P:=h
def a3D{P:Prop}(h:P:=by simp[g,d,j]):P:=h
def a3E{P:Prop}(h:P:=by rw[H,show k=c.at_.length by omega];simp):P:=h
def a3F{P:Prop}(h:P:=by rw[E.all_length];exact Zm hj (by omega)):P:=h
def a3G{P:Prop}(h:P:=by rw[he];simp):P:=h
def a3H{P:Prop}(h:P:=by simp only[filter_filter,Bool.and_comm]):P:=h
def a3I{P:Prop}(h:P:=by simp[l]):P:=h
def a3J{P:Prop}(h:P:=by simp[Q]):P:=h
def a3K{P:Prop}(h:P:=by simp[D]):P:=h
def a3L{P:Prop}(h:P:=by rw[show s=c.length by omega,EH a1 b6]):P:=h
def a3O{P:Prop}(h:P:=by rw[YR,XH];exact d):P:=h
def a3Q{P:Prop}(h:P:=by rw[H]):P:=h
def a3R{P:Prop}(h:P:=by rw[d]at H;exact H):P:=h
def a3S{P:Prop}(h:P:=by rw[h.head]):P:=h
def a3T{P:Prop}(h:P:=by rw[ao q,eP,u];simp[ij,p,K];try omega):P:=h
def a3U{P:Prop}(h:P:=by simp[Dq,Qn,jf,bU,bC,ItX.b,ItX.b0,lt]):P:=h
def a3V{P:Prop}(h:P:=by simp[Region.wanted,q,k.yielded hj p]):P:=h
def a3W{P:Prop}(h:P:=by simp[tabN]):P:=h
def a3X{P:Prop}(h:P:=by unfold yA;first|rw[Xp c8]|rw[Xn c8]):P:=h
def a3Y{P:Prop}(h:P:=by simpa using(show i.1=true from q.2)):P:=h
def a3Z{P:Prop}(h:P:=by simpa using(show d.1=true from q.2)):P:=h
def a4a{P:Prop}(h:P:=by simp;exact λ e=>i (e.symm.trans g)):P:=h
def a4b{P:Prop}(h:P:=by simp;exact λ e=>i (e.symm.trans k)):P:=h
def a4c{P:Prop}(h:P:=by simp[cL,rI,ck,e]):P:=h
def a4d{P:Prop}(h:P:=by rw[hm,show k=l.length by omega,XH]):P:=h
def a4e{P:Prop}(h:P:=by rw[AT,hL]<;>rfl):P:=h
def a4f{P:Prop}(h:P:=by rw[show k-1+1=k by omega];exact i):P:=h
def a4g{P:Prop}(h:P:=by simp[k,q]):P:=h
def a4h{P:Prop}(h:P:=by rw[H,show k=d.length by omega,XH]):P:=h
def a4i{P:Prop}(h:P:=by rw[ao D,fD,pJ,<-H,j,<-N];simp[c2]):P:=h
def a4j{P:Prop}(h:P:=by simp[u,D]):P:=h
def a4k{P:Prop}(h:P:=by rw[cA,ch];omega):P:=h
def a4l{P:Prop}(h:P:=by simp at h;omega):P:=h
def a4m{P:Prop}(h:P:=by have:=ec D;have:=ec o;simp;omega):P:=h
def a4n{P:Prop}(h:P:=by rw[cA];(try simp only[AT]);omega):P:=h
def a4o{P:Prop}(h:P:=by have:=(H.m4 (by omega)).1;omega):P:=h
def a4p{P:Prop}(h:P:=by have:=H.2.2;simp only[KP];omega):P:=h
def a4q{P:Prop}(h:P:=by simpa using g2):P:=h
def a4r{P:Prop}(h:P:=by rw[show k=l.length by omega,XH]):P:=h
def a4s{P:Prop}(h:P:=by simp only[AT,Xu,Xo,No,Xv];omega):P:=h
def a4t{P:Prop}(h:P:=by simpa using g1):P:=h
def a4u{P:Prop}(h:P:=by rw[mA p];omega):P:=h
def a4v{P:Prop}(h:P:=by unfold wX;exact Ym.2 (by omega)):P:=h
def a4w{P:Prop}(h:P:=by rw[show d-1+1=d by omega,YA,ZN]):P:=h
def a4x{P:Prop}(h:P:=by rw[tK];exact h):P:=h
def a4y{P:Prop}(h:P:=by simpa using hy):P:=h
def a4z{P:Prop}(h:P:=by have:=(o.tx.nm t ht).2.2;omega):P:=h
def a4A{P:Prop}(h:P:=by have:=ec o;simp only[KP];omega):P:=h
def a4B{P:Prop}(h:P:=by simp[lL]):P:=h
def a4C{P:Prop}(h:P:=by simp[c1]):P:=h
def a4D{P:Prop}(h:P:=by rw[jy g,H];simp only[KW]<;>rfl):P:=h
def a4E{P:Prop}(h:P:=by simp;exact Nat.min_le_left _ _):P:=h
def a4F{P:Prop}(h:P:=by simpa using P):P:=h
def a4G{P:Prop}(h:P:=by unfold fw;rw[Xn d,Xp g]<;>rfl):P:=h
def a4H{P:Prop}(h:P:=by unfold fw;rw[Xn d,Xn g]<;>rfl):P:=h
def a4I{P:Prop}(h:P:=by simpa using k):P:=h
def a4J{P:Prop}(h:P:=by rw[ao d,gR];simp[i];try omega):P:=h
def a4K{P:Prop}(h:P:=by rw[ao p,mi];simp[u];try omega):P:=h
def a4L{P:Prop}(h:P:=by rw[<-E]<;>rfl):P:=h
def a4M{P:Prop}(h:P:=by rw[sG,aB,j2 (by omega)];omega):P:=h
def a4N{P:Prop}(h:P:=by rw[ho.fo];simp only[KP];omega):P:=h
def a4O{P:Prop}(h:P:=by rw[AT];simp only[No,Xv];omega):P:=h
def a4P{P:Prop}(h:P:=by simpa using j):P:=h
def a4Q{P:Prop}(h:P:=by have:=uD c y.ls k;simp;omega):P:=h
def a4R{P:Prop}(h:P:=by simp only[AT,KP,Xu,Xo];omega):P:=h
def a4S{P:Prop}(h:P:=by simp only[AT,KP,iA]at*;omega):P:=h
def a4T{P:Prop}(h:P:=by rw[show k=W.length by omega]):P:=h
def a4U{P:Prop}(h:P:=by rw[ao g,l7,<-H];exact Fb X x):P:=h
def a4V{P:Prop}(h:P:=by rw[ao D,fD,pJ,<-H,j,map_set]):P:=h
def a4W{P:Prop}(h:P:=by(try simp only[Xt]);exact a2):P:=h
def a4X{P:Prop}(h:P:=by rw[j2 (by omega),q.1];decide):P:=h
def a4Z{P:Prop}(h:P:=by(try simp only[AT,aK]);omega):P:=h
def a5a{P:Prop}(h:P:=by rw[kY];omega):P:=h
def a5b{P:Prop}(h:P:=by simp[A]):P:=h
def a5c{P:Prop}(h:P:=by rw[E.all_length];exact KM _):P:=h
def a5d{P:Prop}(h:P:=by simp[o]):P:=h
def a5e{P:Prop}(h:P:=by rw[Xu];omega):P:=h
def a5f{P:Prop}(h:P:=by simp[h]):P:=h
def a5g{P:Prop}(h:P:=by rw[cD];omega):P:=h
def a5h{P:Prop}(h:P:=by simp[y]):P:=h
def a5i{P:Prop}(h:P:=by rw[<-H];simp):P:=h
def a5j{P:Prop}(h:P:=by rw[ow];omega):P:=h