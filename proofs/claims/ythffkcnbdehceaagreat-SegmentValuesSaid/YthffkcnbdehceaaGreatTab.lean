/-
 TABLES:closed facts on the types and functions of this seat (printed by our own program gtypes.py).
-/
import Derived.Test.YthffkcnbdehceaaGreatKm
import Derived.Test.YthffkcnbdehceaaGreatKb
import Derived.Test.YthffkcnbdehceaaGreatRows
set_option linter.all false
set_option maxRecDepth 100000
open Go.Proofs.Tryz
namespace Go.Proofs.YthffkcnbdehceaaGreat
open Go.RowKit Go.Kw
def ff:dI prog 3=true:=by kernel_rfl
def dd:(prog.info? 3).map (·.size)=some 1:=by kernel_rfl
def Px:(prog.info? 3).map (·.zero)=some (some (.int .i64 0)):=by kernel_rfl
def MC:dI prog 4=true:=by kernel_rfl
def O0:(prog.info? 4).map (·.size)=some 1:=by kernel_rfl
def Py:(prog.info? 4).map (·.zero)=some (some (.bool false)):=by kernel_rfl
def Pz:dI prog 5=true:=by kernel_rfl
def PA:(prog.info? 5).map (·.size)=some 1:=by kernel_rfl
def PB:dI prog 9=true:=by kernel_rfl
def Lx:(prog.info? 9).map (·.size)=some 1:=by kernel_rfl
def gj:dI prog 22=true:=by kernel_rfl
def ou:(prog.info? 22).map (·.size)=some 1:=by kernel_rfl
def aY:SlTy prog 22 3 1 (.int .i64 0) 8:=.of underlying22 (by kernel_rfl) Y (by decide)
def Fo:SlTy prog 23 86 2 (.agg #[.string ByteArray.empty,.bool false]) 24:=.of underlying23 (by kernel_rfl) Y (by decide)
def BP:dI prog 24=true:=by kernel_rfl
def MD:(prog.info? 24).map (·.size)=some 1:=by kernel_rfl
def BQ:SlTy prog 24 28 1 (.slice none 0 0) 24:=.of underlying24 (by kernel_rfl) Y (by decide)
def ME:(prog.info? 25).map (·.size)=some 1:=by kernel_rfl
def uc:SlTy prog 25 71 4 (.agg #[.string ByteArray.empty,.int .i64 0,.int .i64 0,.slice none 0 0]) 56:=.of underlying25 (by kernel_rfl) Y (by decide)
def MF:(prog.info? 26).map (·.size)=some 1:=by kernel_rfl
def pI:SlTy prog 26 75 4 (.agg #[.string ByteArray.empty,.int .i64 0,.int .i64 0,.slice none 0 0]) 56:=.of underlying26 (by kernel_rfl) Y (by decide)
def tu:(prog.info? 27).map (·.size)=some 1:=by kernel_rfl
def j3:SlTy prog 27 84 4 (.agg #[.string ByteArray.empty,.int .i64 0,.int .i64 0,.int .i64 0]) 40:=.of underlying27 (by kernel_rfl) Y (by decide)
def fD:dI prog 28=true:=by kernel_rfl
def zX:(prog.info? 28).map (·.size)=some 1:=by kernel_rfl
def bL:SlTy prog 28 9 1 (.string ByteArray.empty) 16:=.of underlying28 (by kernel_rfl) Y (by decide)
def O1:(prog.info? 28).map (·.zero)=some (some (.slice none 0 0)):=by kernel_rfl
def De:kO prog 30 5 5=true:=by kernel_rfl
def Df:kO prog 30 6 6=true:=by kernel_rfl
def O2:BuildTy prog 30 [(0,1),(1,1),(2,1),(3,1),(4,1),(5,1),(6,1)] [.slice none 0 0,.slice none 0 0,.slice none 0 0,.slice none 0 0,.slice none 0 0,.slice none 0 0,.slice none 0 0]:=⟨by kernel_rfl,_,underlying30,λ _=>by kernel_rfl⟩
def kj:dS prog 30 7=true:=by kernel_rfl
def O3:(prog.info? 30).map (·.zero)=some (some (.agg #[.slice none 0 0,.slice none 0 0,.slice none 0 0,.slice none 0 0,.slice none 0 0,.slice none 0 0,.slice none 0 0])):=by kernel_rfl
def xw:dI prog 45=true:=by kernel_rfl
def ck:SlTy prog 45 5 1 (.int .u8 0) 1:=.of underlying45 (by kernel_rfl) Y (by decide)
def QO:BuildTy prog 58 [(0,1),(1,1)] [.slice none 0 0,.int .i64 0]:=⟨by kernel_rfl,_,underlying58,λ _=>by kernel_rfl⟩
def QP:BuildTy prog 66 [(0,1)] [.slice none 0 0]:=⟨by kernel_rfl,_,underlying66,λ _=>by kernel_rfl⟩
def IG:(prog.info? 69).map (·.size)=some 1:=by kernel_rfl
def Fp:SlTy prog 69 120 2 (.agg #[.string ByteArray.empty,.string ByteArray.empty]) 32:=.of underlying69 (by kernel_rfl) Y (by decide)
def O4:(prog.info? 69).map (·.zero)=some (some (.slice none 0 0)):=by kernel_rfl
def Dg:kO prog 71 3 3=true:=by kernel_rfl
def Ly:BuildTy prog 71 [(0,1),(1,1),(2,1),(3,1)] [.string ByteArray.empty,.int .i64 0,.int .i64 0,.slice none 0 0]:=⟨by kernel_rfl,_,underlying71,λ _=>by kernel_rfl⟩
def zY:dS prog 71 4=true:=by kernel_rfl
def tz:(prog.info? 71).map (·.zero)=some (some (.agg #[.string ByteArray.empty,.int .i64 0,.int .i64 0,.slice none 0 0])):=by kernel_rfl
def O5:BuildTy prog 75 [(0,1),(1,1),(2,1),(3,1)] [.string ByteArray.empty,.int .i64 0,.int .i64 0,.slice none 0 0]:=⟨by kernel_rfl,_,underlying75,λ _=>by kernel_rfl⟩
def zZ:dS prog 75 4=true:=by kernel_rfl
def O6:(prog.info? 75).map (·.zero)=some (some (.agg #[.string ByteArray.empty,.int .i64 0,.int .i64 0,.slice none 0 0])):=by kernel_rfl
def xx:BuildTy prog 84 [(0,1),(1,1),(2,1),(3,1)] [.string ByteArray.empty,.int .i64 0,.int .i64 0,.int .i64 0]:=⟨by kernel_rfl,_,underlying84,λ _=>by kernel_rfl⟩
def Aa:dS prog 84 4=true:=by kernel_rfl
def tA:(prog.info? 84).map (·.zero)=some (some (.agg #[.string ByteArray.empty,.int .i64 0,.int .i64 0,.int .i64 0])):=by kernel_rfl
def IH:BuildTy prog 86 [(0,1),(1,1)] [.string ByteArray.empty,.bool false]:=⟨by kernel_rfl,_,underlying86,λ _=>by kernel_rfl⟩
def O7:(prog.info? 86).map (·.zero)=some (some (.agg #[.string ByteArray.empty,.bool false])):=by kernel_rfl
def kd:dI prog 87=true:=by kernel_rfl
def PC:(prog.info? 87).map (·.size)=some 1:=by kernel_rfl
def O8:SlTy prog 87 111 2 (.agg #[.pointer none,.slice none 0 0]) 32:=.of underlying87 (by kernel_rfl) Y (by decide)
def PD:BuildTy prog 102 [(0,7),(7,1)] [.slice none 0 0,.slice none 0 0,.slice none 0 0,.slice none 0 0,.slice none 0 0,.slice none 0 0,.slice none 0 0,.slice none 0 0]:=⟨by kernel_rfl,_,underlying102,λ _=>by kernel_rfl⟩
def Lz:dI prog 108=true:=by kernel_rfl
def MG:SlTy prog 109 116 1 (.pointer none) 8:=.of underlying109 (by kernel_rfl) Y (by decide)
def PE:BuildTy prog 111 [(0,1),(1,1)] [.pointer none,.slice none 0 0]:=⟨by kernel_rfl,_,underlying111,λ _=>by kernel_rfl⟩
def O9:dS prog 111 2=true:=by kernel_rfl
def LA:(prog.info? 111).map (·.zero)=some (some (.agg #[.pointer none,.slice none 0 0])):=by kernel_rfl
def Dh:BuildTy prog 120 [(0,1),(1,1)] [.string ByteArray.empty,.string ByteArray.empty]:=⟨by kernel_rfl,_,underlying120,λ _=>by kernel_rfl⟩
def LB:(prog.info? 120).map (·.zero)=some (some (.agg #[.string ByteArray.empty,.string ByteArray.empty])):=by kernel_rfl
def MH:SlTy prog 129 128 1 (.nilFunc) 8:=.of underlying129 (by kernel_rfl) Y (by decide)
def ow:dI prog 132=true:=by kernel_rfl
def tB:(prog.info? 132).map (·.size)=some 1:=by kernel_rfl
def Di:SlTy prog 139 22 1 (.slice none 0 0) 24:=.of underlying139 (by kernel_rfl) Y (by decide)
def Oa:ArrTy prog 142 4 5 1:=⟨underlying142,by kernel_rfl⟩
def Ob:BuildAr prog 142 4 5 [.int .u8 0,.int .u8 0,.int .u8 0,.int .u8 0]:=⟨by kernel_rfl,underlying142,by kernel_rfl⟩
def xy:dS prog 142 4=true:=by kernel_rfl
def LC:(prog.info? 142).map (·.zero)=some (some (.agg #[.int .u8 0,.int .u8 0,.int .u8 0,.int .u8 0])):=by kernel_rfl
def Dj:dI prog 144=true:=by kernel_rfl
def Oc:(prog.info? 144).map (·.size)=some 1:=by kernel_rfl
def PF:BuildTy prog 156 [(0,1),(1,1)] [.slice none 0 0,.bool false]:=⟨by kernel_rfl,_,underlying156,λ _=>by kernel_rfl⟩
def tC:kO prog 158 0 0=true:=by kernel_rfl
def ij:kO prog 158 1 2=true:=by kernel_rfl
def II:kO prog 158 3 10=true:=by kernel_rfl
def PG:BuildTy prog 158 [(0,2),(2,7),(9,1),(10,1)] [.slice none 0 0,.bool false,.slice none 0 0,.slice none 0 0,.slice none 0 0,.slice none 0 0,.slice none 0 0,.slice none 0 0,.slice none 0 0,.slice none 0 0,.int .i64 0]:=⟨by kernel_rfl,_,underlying158,λ _=>by kernel_rfl⟩
def Ab:kO prog 166 1 1=true:=by kernel_rfl
def MI:BuildTy prog 166 [(0,1),(1,1),(2,1)] [.slice none 0 0,.slice none 0 0,.slice none 0 0]:=⟨by kernel_rfl,_,underlying166,λ _=>by kernel_rfl⟩
def iQ:dI prog 171=true:=by kernel_rfl
def Od:(prog.info? 171).map (·.size)=some 1:=by kernel_rfl
def IJ:SlTy prog 171 192 2 (.agg #[.int .i64 0,.int .i64 0]) 16:=.of underlying171 (by kernel_rfl) Y (by decide)
def PH:BuildTy prog 173 [(0,1),(1,1),(2,1),(3,1)] [.int .i64 0,.int .i64 0,.slice none 0 0,.slice none 0 0]:=⟨by kernel_rfl,_,underlying173,λ _=>by kernel_rfl⟩
def ql:SlTy prog 183 4 1 (.bool false) 1:=.of underlying183 (by kernel_rfl) Y (by decide)
def PI:BuildTy prog 192 [(0,1),(1,1)] [.int .i64 0,.int .i64 0]:=⟨by kernel_rfl,_,underlying192,λ _=>by kernel_rfl⟩
def BR:ArrTy prog 194 16 144 1:=⟨underlying194,by kernel_rfl⟩
def LD:(prog.info? 194).map (·.zero)=some (some (.agg #[.int .u32 0,.int .u32 0,.int .u32 0,.int .u32 0,.int .u32 0,.int .u32 0,.int .u32 0,.int .u32 0,.int .u32 0,.int .u32 0,.int .u32 0,.int .u32 0,.int .u32 0,.int .u32 0,.int .u32 0,.int .u32 0])):=by kernel_rfl
def Ac:BuildTy prog 199 [(0,1),(1,1)] [.slice none 0 0,.slice none 0 0]:=⟨by kernel_rfl,_,underlying199,λ _=>by kernel_rfl⟩
def tD:dS prog 199 2=true:=by kernel_rfl
def LF:(prog.info? 199).map (·.zero)=some (some (.agg #[.slice none 0 0,.slice none 0 0])):=by kernel_rfl
def MJ:BuildTy prog 206 [(0,1),(1,1),(2,1)] [.int .i64 0,.int .u64 0,.int .i64 0]:=⟨by kernel_rfl,_,underlying206,λ _=>by kernel_rfl⟩
def Ad:kO prog 240 1 1=true:=by kernel_rfl
def IK:BuildTy prog 240 [(0,1),(1,1),(2,1)] [.int .i32 0,.int .i64 0,.int .i64 0]:=⟨by kernel_rfl,_,underlying240,λ _=>by kernel_rfl⟩
def pJ:dS prog 240 3=true:=by kernel_rfl
def xz:(prog.info? 240).map (·.zero)=some (some (.agg #[.int .i32 0,.int .i64 0,.int .i64 0])):=by kernel_rfl
def LG:dI prog 243=true:=by kernel_rfl
def IL:SlTy prog 243 248 2 (.agg #[.slice none 0 0,.int .i64 0]) 32:=.of underlying243 (by kernel_rfl) Y (by decide)
def Dk:BuildTy prog 245 [(0,1),(1,1),(2,1),(3,1),(4,1),(5,1)] [.int .i64 0,.int .i64 0,.slice none 0 0,.slice none 0 0,.int .i64 0,.slice none 0 0]:=⟨by kernel_rfl,_,underlying245,λ _=>by kernel_rfl⟩
def LH:(prog.info? 245).map (·.zero)=some (some (.agg #[.int .i64 0,.int .i64 0,.slice none 0 0,.slice none 0 0,.int .i64 0,.slice none 0 0])):=by kernel_rfl
def MK:BuildTy prog 248 [(0,1),(1,1)] [.slice none 0 0,.int .i64 0]:=⟨by kernel_rfl,_,underlying248,λ _=>by kernel_rfl⟩
def LI:(prog.info? 248).map (·.zero)=some (some (.agg #[.slice none 0 0,.int .i64 0])):=by kernel_rfl
def PJ:BuildTy prog 254 [(0,1),(1,1)] [.slice none 0 0,.int .i64 0]:=⟨by kernel_rfl,_,underlying254,λ _=>by kernel_rfl⟩
def PK:BuildTy prog 256 [(0,2)] [.slice none 0 0,.int .i64 0]:=⟨by kernel_rfl,_,underlying256,λ _=>by kernel_rfl⟩
def PL:BuildTy prog 261 [(0,1),(1,1)] [.slice none 0 0,.bool false]:=⟨by kernel_rfl,_,underlying261,λ _=>by kernel_rfl⟩
def LJ:(prog.info? 261).map (·.zero)=some (some (.agg #[.slice none 0 0,.bool false])):=by kernel_rfl
def PM:BuildTy prog 264 [(0,1),(1,1)] [.slice none 0 0,.bool false]:=⟨by kernel_rfl,_,underlying264,λ _=>by kernel_rfl⟩
def LK:(prog.info? 264).map (·.zero)=some (some (.agg #[.slice none 0 0,.bool false])):=by kernel_rfl
def LL:(prog.info? 267).map (·.zero)=some (some (.int .u64 0)):=by kernel_rfl
def PN:BuildTy prog 274 [(0,2),(2,1)] [.slice none 0 0,.int .i64 0,.int .i64 0]:=⟨by kernel_rfl,_,underlying274,λ _=>by kernel_rfl⟩
def LM:dI prog 279=true:=by kernel_rfl
def Oe:(prog.info? 279).map (·.size)=some 1:=by kernel_rfl
def IM:SlTy prog 279 240 3 (.agg #[.int .i32 0,.int .i64 0,.int .i64 0]) 24:=.of underlying279 (by kernel_rfl) Y (by decide)
def LN:(prog.info? 279).map (·.zero)=some (some (.slice none 0 0)):=by kernel_rfl
def qm:SlTy prog 285 288 4 (.agg #[.int .i64 0,.int .i64 0,.int .i64 0,.int .i64 0]) 32:=.of underlying285 (by kernel_rfl) Y (by decide)
def ML:BuildTy prog 288 [(0,1),(1,1),(2,1),(3,1)] [.int .i64 0,.int .i64 0,.int .i64 0,.int .i64 0]:=⟨by kernel_rfl,_,underlying288,λ _=>by kernel_rfl⟩
def IP:dS prog 288 4=true:=by kernel_rfl
def LO:(prog.info? 288).map (·.zero)=some (some (.agg #[.int .i64 0,.int .i64 0,.int .i64 0,.int .i64 0])):=by kernel_rfl
def IQ:SlTy prog 289 285 1 (.slice none 0 0) 24:=.of underlying289 (by kernel_rfl) Y (by decide)
def IS:SlTy prog 291 132 1 (.int .u64 0) 8:=.of underlying291 (by kernel_rfl) Y (by decide)
def IT:SlTy prog 296 299 4 (.agg #[.int .i32 0,.int .i64 0,.int .i64 0,.bool false]) 32:=.of underlying296 (by kernel_rfl) Y (by decide)
def MM:BuildTy prog 299 [(0,1),(1,1),(2,1),(3,1)] [.int .i32 0,.int .i64 0,.int .i64 0,.bool false]:=⟨by kernel_rfl,_,underlying299,λ _=>by kernel_rfl⟩
def LP:(prog.info? 299).map (·.zero)=some (some (.agg #[.int .i32 0,.int .i64 0,.int .i64 0,.bool false])):=by kernel_rfl
def dR:SlTy prog 300 302 3 (.agg #[.int .i64 0,.bool false,.slice none 0 0]) 40:=.of underlying300 (by kernel_rfl) Y (by decide)
def IU:BuildTy prog 302 [(0,1),(1,1),(2,1)] [.int .i64 0,.bool false,.slice none 0 0]:=⟨by kernel_rfl,_,underlying302,λ _=>by kernel_rfl⟩
def xA:dS prog 302 3=true:=by kernel_rfl
def xB:(prog.info? 302).map (·.zero)=some (some (.agg #[.int .i64 0,.bool false,.slice none 0 0])):=by kernel_rfl
def BS:ArrTy prog 321 32 3 1:=⟨underlying321,by kernel_rfl⟩
def LQ:(prog.info? 321).map (·.zero)=some (some (.agg #[.int .i64 0,.int .i64 0,.int .i64 0,.int .i64 0,.int .i64 0,.int .i64 0,.int .i64 0,.int .i64 0,.int .i64 0,.int .i64 0,.int .i64 0,.int .i64 0,.int .i64 0,.int .i64 0,.int .i64 0,.int .i64 0,.int .i64 0,.int .i64 0,.int .i64 0,.int .i64 0,.int .i64 0,.int .i64 0,.int .i64 0,.int .i64 0,.int .i64 0,.int .i64 0,.int .i64 0,.int .i64 0,.int .i64 0,.int .i64 0,.int .i64 0,.int .i64 0])):=by kernel_rfl
def PO:BuildTy prog 327 [(0,1),(1,1)] [.slice none 0 0,.bool false]:=⟨by kernel_rfl,_,underlying327,λ _=>by kernel_rfl⟩
def LR:(prog.info? 327).map (·.zero)=some (some (.agg #[.slice none 0 0,.bool false])):=by kernel_rfl
def pK:ArrTy prog 337 16 132 1:=⟨underlying337,by kernel_rfl⟩
def lb:ArrTy prog 338 16 22 1:=⟨underlying338,by kernel_rfl⟩
def Ae:kO prog 340 1 16=true:=by kernel_rfl
def PQ:BuildTy prog 340 [(0,16),(16,16),(32,1)] [.int .u64 0,.int .u64 0,.int .u64 0,.int .u64 0,.int .u64 0,.int .u64 0,.int .u64 0,.int .u64 0,.int .u64 0,.int .u64 0,.int .u64 0,.int .u64 0,.int .u64 0,.int .u64 0,.int .u64 0,.int .u64 0,.slice none 0 0,.slice none 0 0,.slice none 0 0,.slice none 0 0,.slice none 0 0,.slice none 0 0,.slice none 0 0,.slice none 0 0,.slice none 0 0,.slice none 0 0,.slice none 0 0,.slice none 0 0,.slice none 0 0,.slice none 0 0,.slice none 0 0,.slice none 0 0,.int .i64 0]:=⟨by kernel_rfl,_,underlying340,λ _=>by kernel_rfl⟩
def vU:Enters prog 25:=.of func25 Y (by kernel_rfl)
def PR:Enters prog 70:=.of func70 Y (by kernel_rfl)
def PS:Enters prog 71:=.of func71 Y (by kernel_rfl)
def PT:Enters prog 72:=.of func72 Y (by kernel_rfl)
def PU:Enters prog 73:=.of func73 Y (by kernel_rfl)
def PV:Enters prog 74:=.of func74 Y (by kernel_rfl)
def PW:Enters prog 75:=.of func75 Y (by kernel_rfl)
def PX:Enters prog 83:=.of func83 Y (by kernel_rfl)
def PY:Enters prog 84:=.of func84 Y (by kernel_rfl)
def PZ:Enters prog 98:=.of func98 Y (by kernel_rfl)
def Q0:Enters prog 99:=.of func99 Y (by kernel_rfl)
def Of:Enters prog 100:=.of func100 Y (by kernel_rfl)
def Og:Enters prog 101:=.of func101 Y (by kernel_rfl)
def Oh:Enters prog 102:=.of func102 Y (by kernel_rfl)
def Oi:Enters prog 109:=.of func109 Y (by kernel_rfl)
def Oj:Enters prog 122:=.of func122 Y (by kernel_rfl)
def BT:Enters prog 150:=.of func150 Y (by kernel_rfl)
def xC:Enters prog 151:=.of func151 Y (by kernel_rfl)
def Ol:Enters prog 182:=.of func182 Y (by kernel_rfl)
def Om:Enters prog 185:=.of func185 Y (by kernel_rfl)
def IV:Enters prog 204:=.of func204 Y (by kernel_rfl)
def On:Enters prog 213:=.of func213 Y (by kernel_rfl)
def IW:Enters prog 222:=.of func222 Y (by kernel_rfl)
def Oo:Enters prog 234:=.of func234 Y (by kernel_rfl)
def Oq:Enters prog 261:=.of func261 Y (by kernel_rfl)
def Ot:Enters prog 263:=.of func263 Y (by kernel_rfl)
def Ou:Enters prog 278:=.of func278 Y (by kernel_rfl)
instance en9:Ent prog 9:=Ent.mk' func9
instance en10:Ent prog 10:=Ent.mk' func10
instance en11:Ent prog 11:=Ent.mk' func11
instance en12:Ent prog 12:=Ent.mk' func12
instance en13:Ent prog 13:=Ent.mk' func13
instance en14:Ent prog 14:=Ent.mk' func14
instance en16:Ent prog 16:=Ent.mk' func16
instance en17:Ent prog 17:=Ent.mk' func17
instance en18:Ent prog 18:=Ent.mk' func18
instance en21:Ent prog 21:=Ent.mk' func21
instance en22:Ent prog 22:=Ent.mk' func22
instance en23:Ent prog 23:=Ent.mk' func23
instance en24:Ent prog 24:=Ent.mk' func24
instance en25:Ent prog 25:=Ent.mk' func25
instance en26:Ent prog 26:=Ent.mk' func26
instance en27:Ent prog 27:=Ent.mk' func27
instance en28:Ent prog 28:=Ent.mk' func28
instance en29:Ent prog 29:=Ent.mk' func29
instance en30:Ent prog 30:=Ent.mk' func30
instance en31:Ent prog 31:=Ent.mk' func31
instance en32:Ent prog 32:=Ent.mk' func32
instance en33:Ent prog 33:=Ent.mk' func33
instance en34:Ent prog 34:=Ent.mk' func34
instance en35:Ent prog 35:=Ent.mk' func35
instance en36:Ent prog 36:=Ent.mk' func36
instance en37:Ent prog 37:=Ent.mk' func37
instance en38:Ent prog 38:=Ent.mk' func38
instance en39:Ent prog 39:=Ent.mk' func39
instance en40:Ent prog 40:=Ent.mk' func40
instance en41:Ent prog 41:=Ent.mk' func41
instance en47:Ent prog 47:=Ent.mk' func47
instance en48:Ent prog 48:=Ent.mk' func48
instance en54:Ent prog 54:=Ent.mk' func54
instance en55:Ent prog 55:=Ent.mk' func55
instance en56:Ent prog 56:=Ent.mk' func56
instance en57:Ent prog 57:=Ent.mk' func57
instance en58:Ent prog 58:=Ent.mk' func58
instance en59:Ent prog 59:=Ent.mk' func59
instance en60:Ent prog 60:=Ent.mk' func60
instance en61:Ent prog 61:=Ent.mk' func61
instance en62:Ent prog 62:=Ent.mk' func62
instance en63:Ent prog 63:=Ent.mk' func63
instance en64:Ent prog 64:=Ent.mk' func64
instance en65:Ent prog 65:=Ent.mk' func65
instance en66:Ent prog 66:=Ent.mk' func66
instance en67:Ent prog 67:=Ent.mk' func67
instance en68:Ent prog 68:=Ent.mk' func68
instance en69:Ent prog 69:=Ent.mk' func69
instance en76:Ent prog 76:=Ent.mk' func76
instance en77:Ent prog 77:=Ent.mk' func77
instance en78:Ent prog 78:=Ent.mk' func78
instance en79:Ent prog 79:=Ent.mk' func79
instance en80:Ent prog 80:=Ent.mk' func80
instance en81:Ent prog 81:=Ent.mk' func81
instance en82:Ent prog 82:=Ent.mk' func82
instance en83:Ent prog 83:=Ent.mk' func83
instance en84:Ent prog 84:=Ent.mk' func84
instance en85:Ent prog 85:=Ent.mk' func85
instance en86:Ent prog 86:=Ent.mk' func86
instance en87:Ent prog 87:=Ent.mk' func87
instance en88:Ent prog 88:=Ent.mk' func88
instance en89:Ent prog 89:=Ent.mk' func89
instance en90:Ent prog 90:=Ent.mk' func90
instance en91:Ent prog 91:=Ent.mk' func91
instance en92:Ent prog 92:=Ent.mk' func92
instance en93:Ent prog 93:=Ent.mk' func93
instance en94:Ent prog 94:=Ent.mk' func94
instance en95:Ent prog 95:=Ent.mk' func95
instance en96:Ent prog 96:=Ent.mk' func96
instance en97:Ent prog 97:=Ent.mk' func97
instance en108:Ent prog 108:=Ent.mk' func108
instance en110:Ent prog 110:=Ent.mk' func110
instance en111:Ent prog 111:=Ent.mk' func111
instance en112:Ent prog 112:=Ent.mk' func112
instance en113:Ent prog 113:=Ent.mk' func113
instance en114:Ent prog 114:=Ent.mk' func114
instance en115:Ent prog 115:=Ent.mk' func115
instance en116:Ent prog 116:=Ent.mk' func116
instance en117:Ent prog 117:=Ent.mk' func117
instance en118:Ent prog 118:=Ent.mk' func118
instance en119:Ent prog 119:=Ent.mk' func119
instance en120:Ent prog 120:=Ent.mk' func120
instance en121:Ent prog 121:=Ent.mk' func121
instance en122:Ent prog 122:=Ent.mk' func122
instance en123:Ent prog 123:=Ent.mk' func123
instance en124:Ent prog 124:=Ent.mk' func124
instance en125:Ent prog 125:=Ent.mk' func125
instance en126:Ent prog 126:=Ent.mk' func126
instance en127:Ent prog 127:=Ent.mk' func127
instance en128:Ent prog 128:=Ent.mk' func128
instance en129:Ent prog 129:=Ent.mk' func129
instance en130:Ent prog 130:=Ent.mk' func130
instance en131:Ent prog 131:=Ent.mk' func131
instance en132:Ent prog 132:=Ent.mk' func132
instance en133:Ent prog 133:=Ent.mk' func133
instance en134:Ent prog 134:=Ent.mk' func134
instance en135:Ent prog 135:=Ent.mk' func135
instance en136:Ent prog 136:=Ent.mk' func136
instance en137:Ent prog 137:=Ent.mk' func137
instance en138:Ent prog 138:=Ent.mk' func138
instance en139:Ent prog 139:=Ent.mk' func139
instance en140:Ent prog 140:=Ent.mk' func140
instance en141:Ent prog 141:=Ent.mk' func141
instance en142:Ent prog 142:=Ent.mk' func142
instance en143:Ent prog 143:=Ent.mk' func143
instance en144:Ent prog 144:=Ent.mk' func144
instance en145:Ent prog 145:=Ent.mk' func145
instance en146:Ent prog 146:=Ent.mk' func146
instance en147:Ent prog 147:=Ent.mk' func147
instance en148:Ent prog 148:=Ent.mk' func148
instance en149:Ent prog 149:=Ent.mk' func149
instance en150:Ent prog 150:=Ent.mk' func150
instance en151:Ent prog 151:=Ent.mk' func151
instance en152:Ent prog 152:=Ent.mk' func152
instance en153:Ent prog 153:=Ent.mk' func153
instance en154:Ent prog 154:=Ent.mk' func154
instance en155:Ent prog 155:=Ent.mk' func155
instance en156:Ent prog 156:=Ent.mk' func156
instance en157:Ent prog 157:=Ent.mk' func157
instance en168:Ent prog 168:=Ent.mk' func168
instance en169:Ent prog 169:=Ent.mk' func169
instance en170:Ent prog 170:=Ent.mk' func170
instance en171:Ent prog 171:=Ent.mk' func171
instance en172:Ent prog 172:=Ent.mk' func172
instance en173:Ent prog 173:=Ent.mk' func173
instance en174:Ent prog 174:=Ent.mk' func174
instance en175:Ent prog 175:=Ent.mk' func175
instance en176:Ent prog 176:=Ent.mk' func176
instance en177:Ent prog 177:=Ent.mk' func177
instance en178:Ent prog 178:=Ent.mk' func178
instance en179:Ent prog 179:=Ent.mk' func179
instance en180:Ent prog 180:=Ent.mk' func180
instance en181:Ent prog 181:=Ent.mk' func181
instance en183:Ent prog 183:=Ent.mk' func183
instance en184:Ent prog 184:=Ent.mk' func184
instance en186:Ent prog 186:=Ent.mk' func186
instance en187:Ent prog 187:=Ent.mk' func187
instance en188:Ent prog 188:=Ent.mk' func188
instance en189:Ent prog 189:=Ent.mk' func189
instance en190:Ent prog 190:=Ent.mk' func190
instance en191:Ent prog 191:=Ent.mk' func191
instance en192:Ent prog 192:=Ent.mk' func192
instance en193:Ent prog 193:=Ent.mk' func193
instance en194:Ent prog 194:=Ent.mk' func194
instance en195:Ent prog 195:=Ent.mk' func195
instance en196:Ent prog 196:=Ent.mk' func196
instance en197:Ent prog 197:=Ent.mk' func197
instance en198:Ent prog 198:=Ent.mk' func198
instance en199:Ent prog 199:=Ent.mk' func199
instance en200:Ent prog 200:=Ent.mk' func200
instance en201:Ent prog 201:=Ent.mk' func201
instance en202:Ent prog 202:=Ent.mk' func202
instance en203:Ent prog 203:=Ent.mk' func203
instance en204:Ent prog 204:=Ent.mk' func204
instance en205:Ent prog 205:=Ent.mk' func205
instance en206:Ent prog 206:=Ent.mk' func206
instance en207:Ent prog 207:=Ent.mk' func207
instance en208:Ent prog 208:=Ent.mk' func208
instance en209:Ent prog 209:=Ent.mk' func209
instance en210:Ent prog 210:=Ent.mk' func210
instance en211:Ent prog 211:=Ent.mk' func211
instance en212:Ent prog 212:=Ent.mk' func212
instance en220:Ent prog 220:=Ent.mk' func220
instance en221:Ent prog 221:=Ent.mk' func221
instance en223:Ent prog 223:=Ent.mk' func223
instance en226:Ent prog 226:=Ent.mk' func226
instance en227:Ent prog 227:=Ent.mk' func227
instance en228:Ent prog 228:=Ent.mk' func228
instance en229:Ent prog 229:=Ent.mk' func229
instance en230:Ent prog 230:=Ent.mk' func230
instance en231:Ent prog 231:=Ent.mk' func231
instance en232:Ent prog 232:=Ent.mk' func232
instance en233:Ent prog 233:=Ent.mk' func233
instance en234:Ent prog 234:=Ent.mk' func234
instance en235:Ent prog 235:=Ent.mk' func235
instance en236:Ent prog 236:=Ent.mk' func236
instance en237:Ent prog 237:=Ent.mk' func237
instance en238:Ent prog 238:=Ent.mk' func238
instance en239:Ent prog 239:=Ent.mk' func239
instance en240:Ent prog 240:=Ent.mk' func240
instance en241:Ent prog 241:=Ent.mk' func241
instance en242:Ent prog 242:=Ent.mk' func242
instance en243:Ent prog 243:=Ent.mk' func243
instance en244:Ent prog 244:=Ent.mk' func244
instance en245:Ent prog 245:=Ent.mk' func245
instance en246:Ent prog 246:=Ent.mk' func246
instance en248:Ent prog 248:=Ent.mk' func248
instance en249:Ent prog 249:=Ent.mk' func249
instance en250:Ent prog 250:=Ent.mk' func250
instance en259:Ent prog 259:=Ent.mk' func259
instance en260:Ent prog 260:=Ent.mk' func260
instance en262:Ent prog 262:=Ent.mk' func262
instance en264:Ent prog 264:=Ent.mk' func264
instance en265:Ent prog 265:=Ent.mk' func265
instance en266:Ent prog 266:=Ent.mk' func266
instance en267:Ent prog 267:=Ent.mk' func267
instance en268:Ent prog 268:=Ent.mk' func268
instance en269:Ent prog 269:=Ent.mk' func269
instance en270:Ent prog 270:=Ent.mk' func270
instance en271:Ent prog 271:=Ent.mk' func271
instance en275:Ent prog 275:=Ent.mk' func275
instance en276:Ent prog 276:=Ent.mk' func276
instance en277:Ent prog 277:=Ent.mk' func277
instance en279:Ent prog 279:=Ent.mk' func279
instance en280:Ent prog 280:=Ent.mk' func280
instance en282:Ent prog 282:=Ent.mk' func282
instance en284:Ent prog 284:=Ent.mk' func284
instance tbI:Tb prog:=⟨[(7,[0,1,2,3]),(8,[0,1,2,3]),(13,[0,1]),(14,[0,1]),(18,[0]),(19,[0]),(29,[0,1,2,3,4,5,6]),(30,[0,1,2,3,4,5,6]),(57,[0,1]),(58,[0,1]),(65,[0]),(66,[0]),(70,[0,1,2,3]),(71,[0,1,2,3]),(74,[0,1,2,3]),(75,[0,1,2,3]),(83,[0,1,2,3]),(84,[0,1,2,3]),(85,[0,1]),(86,[0,1]),(91,[0,1]),(92,[0,1]),(101,[0,7]),(102,[0,7]),(110,[0,1]),(111,[0,1]),(119,[0,1]),(120,[0,1]),(155,[0,1]),(156,[0,1]),(157,[0,2,9,10]),(158,[0,2,9,10]),(163,[0,1,2,3]),(164,[0,1,2,3]),(165,[0,1,2]),(166,[0,1,2]),(172,[0,1,2,3]),(173,[0,1,2,3]),(191,[0,1]),(192,[0,1]),(198,[0,1]),(199,[0,1]),(205,[0,1,2]),(206,[0,1,2]),(239,[0,1,2]),(240,[0,1,2]),(244,[0,1,2,3,4,5]),(245,[0,1,2,3,4,5]),(247,[0,1]),(248,[0,1]),(253,[0,1]),(254,[0,1]),(255,[0]),(256,[0]),(260,[0,1]),(261,[0,1]),(263,[0,1]),(264,[0,1]),(273,[0,2]),(274,[0,2]),(287,[0,1,2,3]),(288,[0,1,2,3]),(298,[0,1,2,3]),(299,[0,1,2,3]),(301,[0,1,2]),(302,[0,1,2]),(326,[0,1]),(327,[0,1]),(339,[0,16,32]),(340,[0,16,32]),(346,[0,1,2,3]),(347,[0,1,2,3]),(357,[0,1,2,3,4,5,6,7,8,9,10]),(358,[0,1,2,3,4,5,6,7,8,9,10])],by kernel_rfl,[(2,.i64),(3,.i64),(5,.u8),(6,.u8),(12,.u64),(21,.i32),(34,.i64),(132,.u64),(144,.u32),(151,.u64),(216,.i64),(267,.u64),(351,.u8),(352,.u8),(355,.i32),(356,.i32)],by kernel_rfl,[1,2,3,4,5,6,9,10,11,12,15,16,17,20,21,22,23,24,25,26,27,28,31,32,33,34,36,37,38,40,41,42,43,44,45,46,48,49,50,51,53,54,55,56,59,60,61,63,64,67,68,69,72,73,76,77,78,79,80,81,82,87,89,90,93,95,97,98,99,100,103,104,105,106,107,108,109,112,113,115,116,117,118,121,122,123,124,125,127,128,129,131,132,134,135,136,138,139,141,143,144,145,146,147,148,149,150,151,153,154,159,161,162,167,168,169,170,171,174,175,176,177,178,179,180,181,182,183,184,185,186,187,188,189,190,193,195,196,197,201,202,204,207,208,209,211,212,213,214,215,216,218,219,220,221,222,223,224,225,227,228,230,231,232,233,235,236,237,238,241,242,243,246,250,252,257,258,259,262,265,266,267,268,269,270,271,272,275,277,278,279,280,281,282,283,284,285,286,289,290,291,292,293,294,295,296,297,300,303,305,306,307,308,309,310,311,313,314,315,316,317,318,319,320,322,323,324,325,328,329,330,331,332,333,334,335,336,341,342,343,344,345,351,352,353,354,355,356,359],by kernel_rfl,by kernel_rfl,[(7,4),(8,4),(13,2),(14,2),(18,1),(19,1),(29,7),(30,7),(57,2),(58,2),(65,1),(66,1),(70,4),(71,4),(74,4),(75,4),(83,4),(84,4),(85,2),(86,2),(91,2),(92,2),(101,8),(102,8),(110,2),(111,2),(119,2),(120,2),(142,4),(155,2),(156,2),(157,11),(158,11),(163,4),(164,4),(165,3),(166,3),(172,4),(173,4),(191,2),(192,2),(194,16),(198,2),(199,2),(205,3),(206,3),(239,3),(240,3),(244,6),(245,6),(247,2),(248,2),(253,2),(254,2),(255,2),(256,2),(260,2),(261,2),(263,2),(264,2),(273,3),(274,3),(287,4),(288,4),(298,4),(299,4),(301,3),(302,3),(321,32),(326,2),(327,2),(337,16),(338,16),(339,33),(340,33),(346,4),(347,4),(357,11),(358,11)],by kernel_rfl,[(22,3,1,.int .i64 0,8),(23,86,2,.agg #[.string ByteArray.empty,.bool false],24),(24,28,1,.slice none 0 0,24),(25,71,4,.agg #[.string ByteArray.empty,.int .i64 0,.int .i64 0,.slice none 0 0],56),(26,75,4,.agg #[.string ByteArray.empty,.int .i64 0,.int .i64 0,.slice none 0 0],56),(27,84,4,.agg #[.string ByteArray.empty,.int .i64 0,.int .i64 0,.int .i64 0],40),(28,9,1,.string ByteArray.empty,16),(45,5,1,.int .u8 0,1),(69,120,2,.agg #[.string ByteArray.empty,.string ByteArray.empty],32),(87,111,2,.agg #[.pointer none,.slice none 0 0],32),(109,116,1,.pointer none,8),(129,128,1,.nilFunc,8),(139,22,1,.slice none 0 0,24),(171,192,2,.agg #[.int .i64 0,.int .i64 0],16),(183,4,1,.bool false,1),(243,248,2,.agg #[.slice none 0 0,.int .i64 0],32),(279,240,3,.agg #[.int .i32 0,.int .i64 0,.int .i64 0],24),(285,288,4,.agg #[.int .i64 0,.int .i64 0,.int .i64 0,.int .i64 0],32),(289,285,1,.slice none 0 0,24),(291,132,1,.int .u64 0,8),(296,299,4,.agg #[.int .i32 0,.int .i64 0,.int .i64 0,.bool false],32),(300,302,3,.agg #[.int .i64 0,.bool false,.slice none 0 0],40)],⟨aY,Fo,BQ,uc,pI,j3,bL,ck,Fp,O8,MG,MH,Di,IJ,ql,IL,IM,qm,IQ,IS,IT,dR,trivial⟩,[(3,.int .i64 0),(4,.bool false),(28,.slice none 0 0),(30,.agg #[.slice none 0 0,.slice none 0 0,.slice none 0 0,.slice none 0 0,.slice none 0 0,.slice none 0 0,.slice none 0 0]),(69,.slice none 0 0),(71,.agg #[.string ByteArray.empty,.int .i64 0,.int .i64 0,.slice none 0 0]),(75,.agg #[.string ByteArray.empty,.int .i64 0,.int .i64 0,.slice none 0 0]),(84,.agg #[.string ByteArray.empty,.int .i64 0,.int .i64 0,.int .i64 0]),(86,.agg #[.string ByteArray.empty,.bool false]),(111,.agg #[.pointer none,.slice none 0 0]),(120,.agg #[.string ByteArray.empty,.string ByteArray.empty]),(142,.agg #[.int .u8 0,.int .u8 0,.int .u8 0,.int .u8 0]),(194,.agg #[.int .u32 0,.int .u32 0,.int .u32 0,.int .u32 0,.int .u32 0,.int .u32 0,.int .u32 0,.int .u32 0,.int .u32 0,.int .u32 0,.int .u32 0,.int .u32 0,.int .u32 0,.int .u32 0,.int .u32 0,.int .u32 0]),(199,.agg #[.slice none 0 0,.slice none 0 0]),(240,.agg #[.int .i32 0,.int .i64 0,.int .i64 0]),(245,.agg #[.int .i64 0,.int .i64 0,.slice none 0 0,.slice none 0 0,.int .i64 0,.slice none 0 0]),(248,.agg #[.slice none 0 0,.int .i64 0]),(261,.agg #[.slice none 0 0,.bool false]),(264,.agg #[.slice none 0 0,.bool false]),(267,.int .u64 0),(279,.slice none 0 0),(288,.agg #[.int .i64 0,.int .i64 0,.int .i64 0,.int .i64 0]),(299,.agg #[.int .i32 0,.int .i64 0,.int .i64 0,.bool false]),(302,.agg #[.int .i64 0,.bool false,.slice none 0 0]),(321,.agg #[.int .i64 0,.int .i64 0,.int .i64 0,.int .i64 0,.int .i64 0,.int .i64 0,.int .i64 0,.int .i64 0,.int .i64 0,.int .i64 0,.int .i64 0,.int .i64 0,.int .i64 0,.int .i64 0,.int .i64 0,.int .i64 0,.int .i64 0,.int .i64 0,.int .i64 0,.int .i64 0,.int .i64 0,.int .i64 0,.int .i64 0,.int .i64 0,.int .i64 0,.int .i64 0,.int .i64 0,.int .i64 0,.int .i64 0,.int .i64 0,.int .i64 0,.int .i64 0]),(327,.agg #[.slice none 0 0,.bool false])],⟨Px,Py,O1,O3,O4,tz,O6,tA,O7,LA,LB,LC,LD,LF,xz,LH,LI,LJ,LK,LL,LN,LO,LP,xB,LQ,LR,trivial⟩⟩
def mixed:prog.follows .mixedOrders=true:=by kernel_rfl
instance mxI:Mx prog:=⟨mixed⟩
