/-
 TABLES:closed facts on the types and functions of this seat (printed by our own program gtypes.py).
-/
import Derived.Test.YtcgidfgdbhihbaaGreatDoorKm
import Derived.Test.YtcgidfgdbhihbaaGreatDoorKav
import Derived.Test.YtcgidfgdbhihbaaGreatDoorRows
open ByteArray renaming empty→wt
set_option linter.all false
set_option maxRecDepth 100000
open Go.Proofs.Tryz
namespace Go.Proofs.YtcgidfgdbhihbaaGreatDoor
open Go.RowKit Go.Kw
def ca:cX prog 3=true:=F
def dB:(prog.info? 3).map (·.size)=some 1:=F
def Ve:(prog.info? 3).map (·.zero)=some (some (.int .i64 0)):=F
def fI:cX prog 4=true:=F
def LP:(prog.info? 4).map (·.size)=some 1:=F
def Vf:(prog.info? 4).map (·.zero)=some (some (.bool false)):=F
def Vg:cX prog 5=true:=F
def Vh:(prog.info? 5).map (·.size)=some 1:=F
def qo:cX prog 9=true:=F
def mC:(prog.info? 9).map (·.size)=some 1:=F
def vk:cX prog 21=true:=F
def QE:(prog.info? 21).map (·.size)=some 1:=F
def T0:(prog.info? 21).map (·.zero)=some (some (.int .i32 0)):=F
def gy:cX prog 22=true:=F
def qp:(prog.info? 22).map (·.size)=some 1:=F
def bc:SlTy prog 22 3 1 (.int .i64 0) 8:=.of underlying22 F Y bl
def T3:cX prog 23=true:=F
def HL:SlTy prog 23 81 2 (.agg #[.string wt,.bool false]) 24:=.of underlying23 F Y bl
def QF:(prog.info? 24).map (·.size)=some 1:=F
def DI:SlTy prog 24 28 1 (.slice none 0 0) 24:=.of underlying24 F Y bl
def QG:(prog.info? 25).map (·.size)=some 1:=F
def wm:SlTy prog 25 63 4 (.agg #[.string wt,.int .i64 0,.int .i64 0,.slice none 0 0]) 56:=.of underlying25 F Y bl
def QH:(prog.info? 26).map (·.size)=some 1:=F
def rq:SlTy prog 26 67 4 (.agg #[.string wt,.int .i64 0,.int .i64 0,.slice none 0 0]) 56:=.of underlying26 F Y bl
def vm:(prog.info? 27).map (·.size)=some 1:=F
def jS:SlTy prog 27 69 4 (.agg #[.string wt,.int .i64 0,.int .i64 0,.int .i64 0]) 40:=.of underlying27 F Y bl
def fB:cX prog 28=true:=F
def BQ:(prog.info? 28).map (·.size)=some 1:=F
def bI:SlTy prog 28 9 1 (.string wt) 16:=.of underlying28 F Y bl
def T4:(prog.info? 28).map (·.zero)=some (some (.slice none 0 0)):=F
def Fp:kT prog 30 5 5=true:=F
def Fq:kT prog 30 6 6=true:=F
def HM:BuildTy prog 30 [(0,1),(1,1),(2,1),(3,1),(4,1),(5,1),(6,1)] [.slice none 0 0,.slice none 0 0,.slice none 0 0,.slice none 0 0,.slice none 0 0,.slice none 0 0,.slice none 0 0]:=⟨F,_,underlying30,λ _=>by kernel_rfl⟩
def fW:dF prog 30 7=true:=F
def T5:(prog.info? 30).map (·.zero)=some (some (.agg #[.slice none 0 0,.slice none 0 0,.slice none 0 0,.slice none 0 0,.slice none 0 0,.slice none 0 0,.slice none 0 0])):=F
def Vi:(prog.info? 34).map (·.size)=some 1:=F
def HN:SlTy prog 34 36 7 (.agg #[.int .i64 0,.string wt,.string wt,.string wt,.string wt,.bool false,.slice none 0 0]) 104:=.of underlying34 F Y bl
def wq:BuildTy prog 36 [(0,1),(1,1),(2,1),(3,1),(4,1),(5,1),(6,1)] [.int .i64 0,.string wt,.string wt,.string wt,.string wt,.bool false,.slice none 0 0]:=⟨F,_,underlying36,λ _=>by kernel_rfl⟩
def gW:dF prog 36 7=true:=F
def T6:(prog.info? 36).map (·.zero)=some (some (.agg #[.int .i64 0,.string wt,.string wt,.string wt,.string wt,.bool false,.slice none 0 0])):=F
def WI:BuildTy prog 50 [(0,1),(1,1)] [.slice none 0 0,.int .i64 0]:=⟨F,_,underlying50,λ _=>by kernel_rfl⟩
def vq:cX prog 58=true:=F
def QI:(prog.info? 58).map (·.size)=some 1:=F
def cy:SlTy prog 58 5 1 (.int .u8 0) 1:=.of underlying58 F Y bl
def T7:(prog.info? 58).map (·.zero)=some (some (.slice none 0 0)):=F
def LQ:(prog.info? 61).map (·.size)=some 1:=F
def HO:SlTy prog 61 86 2 (.agg #[.string wt,.string wt]) 32:=.of underlying61 F Y bl
def T8:(prog.info? 61).map (·.zero)=some (some (.slice none 0 0)):=F
def Fs:kT prog 63 3 3=true:=F
def Pq:BuildTy prog 63 [(0,1),(1,1),(2,1),(3,1)] [.string wt,.int .i64 0,.int .i64 0,.slice none 0 0]:=⟨F,_,underlying63,λ _=>by kernel_rfl⟩
def BR:dF prog 63 4=true:=F
def vu:(prog.info? 63).map (·.zero)=some (some (.agg #[.string wt,.int .i64 0,.int .i64 0,.slice none 0 0])):=F
def T9:BuildTy prog 67 [(0,1),(1,1),(2,1),(3,1)] [.string wt,.int .i64 0,.int .i64 0,.slice none 0 0]:=⟨F,_,underlying67,λ _=>by kernel_rfl⟩
def BS:dF prog 67 4=true:=F
def Ta:(prog.info? 67).map (·.zero)=some (some (.agg #[.string wt,.int .i64 0,.int .i64 0,.slice none 0 0])):=F
def zd:BuildTy prog 69 [(0,1),(1,1),(2,1),(3,1)] [.string wt,.int .i64 0,.int .i64 0,.int .i64 0]:=⟨F,_,underlying69,λ _=>by kernel_rfl⟩
def BT:dF prog 69 4=true:=F
def vy:(prog.info? 69).map (·.zero)=some (some (.agg #[.string wt,.int .i64 0,.int .i64 0,.int .i64 0])):=F
def Vj:(prog.info? 71).map (·.size)=some 1:=F
def Tc:SlTy prog 71 176 2 (.agg #[.pointer none,.slice none 0 0]) 32:=.of underlying71 F Y bl
def WJ:BuildTy prog 75 [(0,7),(7,1)] [.slice none 0 0,.slice none 0 0,.slice none 0 0,.slice none 0 0,.slice none 0 0,.slice none 0 0,.slice none 0 0,.slice none 0 0]:=⟨F,_,underlying75,λ _=>by kernel_rfl⟩
def Td:cX prog 76=true:=F
def Te:(prog.info? 76).map (·.zero)=some (some (.nilFunc)):=F
def LR:BuildTy prog 81 [(0,1),(1,1)] [.string wt,.bool false]:=⟨F,_,underlying81,λ _=>by kernel_rfl⟩
def Tf:(prog.info? 81).map (·.zero)=some (some (.agg #[.string wt,.bool false])):=F
def LU:BuildTy prog 86 [(0,1),(1,1)] [.string wt,.string wt]:=⟨F,_,underlying86,λ _=>by kernel_rfl⟩
def Vk:dF prog 86 2=true:=F
def Tg:(prog.info? 86).map (·.zero)=some (some (.agg #[.string wt,.string wt])):=F
def nq:cX prog 102=true:=F
def mD:(prog.info? 102).map (·.size)=some 1:=F
def Ft:SlTy prog 103 22 1 (.slice none 0 0) 24:=.of underlying103 F Y bl
def Fu:cX prog 106=true:=F
def Th:(prog.info? 106).map (·.size)=some 1:=F
def Vl:BuildTy prog 113 [(0,1),(1,1)] [.slice none 0 0,.bool false]:=⟨F,_,underlying113,λ _=>by kernel_rfl⟩
def vz:kT prog 115 0 0=true:=F
def j9:kT prog 115 1 2=true:=F
def LV:kT prog 115 3 10=true:=F
def Vm:BuildTy prog 115 [(0,2),(2,7),(9,1),(10,1)] [.slice none 0 0,.bool false,.slice none 0 0,.slice none 0 0,.slice none 0 0,.slice none 0 0,.slice none 0 0,.slice none 0 0,.slice none 0 0,.slice none 0 0,.int .i64 0]:=⟨F,_,underlying115,λ _=>by kernel_rfl⟩
def Vn:BuildTy prog 130 [(0,1)] [.slice none 0 0]:=⟨F,_,underlying130,λ _=>by kernel_rfl⟩
def BU:BuildTy prog 147 [(0,1),(1,1)] [.slice none 0 0,.slice none 0 0]:=⟨F,_,underlying147,λ _=>by kernel_rfl⟩
def vA:dF prog 147 2=true:=F
def Ps:(prog.info? 147).map (·.zero)=some (some (.agg #[.slice none 0 0,.slice none 0 0])):=F
def rT:SlTy prog 152 4 1 (.bool false) 1:=.of underlying152 F Y bl
def QJ:BuildTy prog 156 [(0,1),(1,1),(2,1)] [.int .i64 0,.int .u64 0,.int .i64 0]:=⟨F,_,underlying156,λ _=>by kernel_rfl⟩
def Ti:ArrTy prog 159 4 5 1:=⟨underlying159,F⟩
def Tj:BuildAr prog 159 4 5 [.int .u8 0,.int .u8 0,.int .u8 0,.int .u8 0]:=⟨F,underlying159,F⟩
def ze:dF prog 159 4=true:=F
def Pu:(prog.info? 159).map (·.zero)=some (some (.agg #[.int .u8 0,.int .u8 0,.int .u8 0,.int .u8 0])):=F
def Pv:cX prog 164=true:=F
def LX:SlTy prog 174 177 1 (.pointer none) 8:=.of underlying174 F Y bl
def Vo:BuildTy prog 176 [(0,1),(1,1)] [.pointer none,.slice none 0 0]:=⟨F,_,underlying176,λ _=>by kernel_rfl⟩
def Tl:dF prog 176 2=true:=F
def Pw:(prog.info? 176).map (·.zero)=some (some (.agg #[.pointer none,.slice none 0 0])):=F
def BV:SlTy prog 184 338 2 (.agg #[.int .i32 0,.int .i32 0]) 8:=.of underlying184 F Y bl
def qq:SlTy prog 185 187 5 (.agg #[.int .i64 0,.int .i64 0,.int .i64 0,.slice none 0 0,.slice none 0 0]) 72:=.of underlying185 F Y bl
def xR:BuildTy prog 187 [(0,1),(1,1),(2,1),(3,1),(4,1)] [.int .i64 0,.int .i64 0,.int .i64 0,.slice none 0 0,.slice none 0 0]:=⟨F,_,underlying187,λ _=>by kernel_rfl⟩
def gz:dF prog 187 5=true:=F
def Px:(prog.info? 187).map (·.zero)=some (some (.agg #[.int .i64 0,.int .i64 0,.int .i64 0,.slice none 0 0,.slice none 0 0])):=F
def QK:SlTy prog 199 98 1 (.nilFunc) 8:=.of underlying199 F Y bl
def DJ:ArrTy prog 214 16 106 1:=⟨underlying214,F⟩
def Py:(prog.info? 214).map (·.zero)=some (some (.agg #[.int .u32 0,.int .u32 0,.int .u32 0,.int .u32 0,.int .u32 0,.int .u32 0,.int .u32 0,.int .u32 0,.int .u32 0,.int .u32 0,.int .u32 0,.int .u32 0,.int .u32 0,.int .u32 0,.int .u32 0,.int .u32 0])):=F
def Vp:BuildTy prog 219 [(0,1),(1,1)] [.slice none 0 0,.bool false]:=⟨F,_,underlying219,λ _=>by kernel_rfl⟩
def Pz:(prog.info? 219).map (·.zero)=some (some (.agg #[.slice none 0 0,.bool false])):=F
def BW:kT prog 221 1 1=true:=F
def QL:BuildTy prog 221 [(0,1),(1,1),(2,1)] [.slice none 0 0,.slice none 0 0,.slice none 0 0]:=⟨F,_,underlying221,λ _=>by kernel_rfl⟩
def Vq:BuildTy prog 224 [(0,1),(1,1)] [.slice none 0 0,.bool false]:=⟨F,_,underlying224,λ _=>by kernel_rfl⟩
def PA:(prog.info? 224).map (·.zero)=some (some (.agg #[.slice none 0 0,.bool false])):=F
def PB:cX prog 227=true:=F
def LY:SlTy prog 227 284 2 (.agg #[.slice none 0 0,.int .i64 0]) 32:=.of underlying227 F Y bl
def Fv:BuildTy prog 229 [(0,1),(1,1),(2,1),(3,1),(4,1),(5,1)] [.int .i64 0,.int .i64 0,.slice none 0 0,.slice none 0 0,.int .i64 0,.slice none 0 0]:=⟨F,_,underlying229,λ _=>by kernel_rfl⟩
def PC:(prog.info? 229).map (·.zero)=some (some (.agg #[.int .i64 0,.int .i64 0,.slice none 0 0,.slice none 0 0,.int .i64 0,.slice none 0 0])):=F
def Vr:BuildTy prog 235 [(0,1),(1,1),(2,1),(3,1)] [.string wt,.int .i64 0,.int .i64 0,.int .i64 0]:=⟨F,_,underlying235,λ _=>by kernel_rfl⟩
def PD:(prog.info? 235).map (·.zero)=some (some (.agg #[.string wt,.int .i64 0,.int .i64 0,.int .i64 0])):=F
def Fw:SlTy prog 242 21 1 (.int .i32 0) 4:=.of underlying242 F Y bl
def qs:cX prog 251=true:=F
def Tm:(prog.info? 251).map (·.size)=some 1:=F
def LZ:SlTy prog 251 257 2 (.agg #[.int .i64 0,.int .i64 0]) 16:=.of underlying251 F Y bl
def Vs:BuildTy prog 253 [(0,1),(1,1),(2,1),(3,1)] [.int .i64 0,.int .i64 0,.slice none 0 0,.slice none 0 0]:=⟨F,_,underlying253,λ _=>by kernel_rfl⟩
def Vt:BuildTy prog 257 [(0,1),(1,1)] [.int .i64 0,.int .i64 0]:=⟨F,_,underlying257,λ _=>by kernel_rfl⟩
def M0:SlTy prog 259 262 4 (.agg #[.int .i32 0,.int .i64 0,.int .i64 0,.bool false]) 32:=.of underlying259 F Y bl
def QM:BuildTy prog 262 [(0,1),(1,1),(2,1),(3,1)] [.int .i32 0,.int .i64 0,.int .i64 0,.bool false]:=⟨F,_,underlying262,λ _=>by kernel_rfl⟩
def PE:(prog.info? 262).map (·.zero)=some (some (.agg #[.int .i32 0,.int .i64 0,.int .i64 0,.bool false])):=F
def eu:SlTy prog 264 266 3 (.agg #[.int .i64 0,.bool false,.slice none 0 0]) 40:=.of underlying264 F Y bl
def M6:BuildTy prog 266 [(0,1),(1,1),(2,1)] [.int .i64 0,.bool false,.slice none 0 0]:=⟨F,_,underlying266,λ _=>by kernel_rfl⟩
def zf:dF prog 266 3=true:=F
def zg:(prog.info? 266).map (·.zero)=some (some (.agg #[.int .i64 0,.bool false,.slice none 0 0])):=F
def PF:cX prog 268=true:=F
def Fx:SlTy prog 268 102 1 (.int .u64 0) 8:=.of underlying268 F Y bl
def vB:kT prog 276 0 0=true:=F
def mE:kT prog 276 1 1=true:=F
def BX:kT prog 276 2 2=true:=F
def M7:BuildTy prog 276 [(0,1),(1,1),(2,1)] [.int .i32 0,.int .i64 0,.int .i64 0]:=⟨F,_,underlying276,λ _=>by kernel_rfl⟩
def mF:dF prog 276 3=true:=F
def qt:(prog.info? 276).map (·.zero)=some (some (.agg #[.int .i32 0,.int .i64 0,.int .i64 0])):=F
def QN:BuildTy prog 284 [(0,1),(1,1)] [.slice none 0 0,.int .i64 0]:=⟨F,_,underlying284,λ _=>by kernel_rfl⟩
def PG:(prog.info? 284).map (·.zero)=some (some (.agg #[.slice none 0 0,.int .i64 0])):=F
def Tn:(prog.info? 299).map (·.size)=some 1:=F
def M8:SlTy prog 299 184 1 (.slice none 0 0) 24:=.of underlying299 F Y bl
def Vu:BuildTy prog 301 [(0,1),(1,1),(2,1),(3,1),(4,1)] [.slice none 0 0,.int .u64 0,.int .u64 0,.slice none 0 0,.bool false]:=⟨F,_,underlying301,λ _=>by kernel_rfl⟩
def Vv:BuildTy prog 310 [(0,1),(1,1)] [.slice none 0 0,.int .i64 0]:=⟨F,_,underlying310,λ _=>by kernel_rfl⟩
def Vw:BuildTy prog 312 [(0,2)] [.slice none 0 0,.int .i64 0]:=⟨F,_,underlying312,λ _=>by kernel_rfl⟩
def PH:cX prog 317=true:=F
def To:(prog.info? 317).map (·.size)=some 1:=F
def M9:SlTy prog 317 276 3 (.agg #[.int .i32 0,.int .i64 0,.int .i64 0]) 24:=.of underlying317 F Y bl
def PI:(prog.info? 317).map (·.zero)=some (some (.slice none 0 0)):=F
def Vx:BuildTy prog 321 [(0,1),(1,1)] [.slice none 0 0,.bool false]:=⟨F,_,underlying321,λ _=>by kernel_rfl⟩
def PJ:(prog.info? 321).map (·.zero)=some (some (.agg #[.slice none 0 0,.bool false])):=F
def Vy:BuildTy prog 327 [(0,2),(2,1)] [.slice none 0 0,.int .i64 0,.int .i64 0]:=⟨F,_,underlying327,λ _=>by kernel_rfl⟩
def nJ:BuildTy prog 335 [(0,1),(1,1),(2,1)] [.int .u64 0,.int .u64 0,.bool false]:=⟨F,_,underlying335,λ _=>by kernel_rfl⟩
def dC:dF prog 335 3=true:=F
def sP:(prog.info? 335).map (·.zero)=some (some (.agg #[.int .u64 0,.int .u64 0,.bool false])):=F
def QO:BuildTy prog 338 [(0,1),(1,1)] [.int .i32 0,.int .i32 0]:=⟨F,_,underlying338,λ _=>by kernel_rfl⟩
def PK:(prog.info? 338).map (·.zero)=some (some (.agg #[.int .i32 0,.int .i32 0])):=F
def rU:SlTy prog 348 351 4 (.agg #[.int .i64 0,.int .i64 0,.int .i64 0,.int .i64 0]) 32:=.of underlying348 F Y bl
def QP:BuildTy prog 351 [(0,1),(1,1),(2,1),(3,1)] [.int .i64 0,.int .i64 0,.int .i64 0,.int .i64 0]:=⟨F,_,underlying351,λ _=>by kernel_rfl⟩
def Ma:dF prog 351 4=true:=F
def PL:(prog.info? 351).map (·.zero)=some (some (.agg #[.int .i64 0,.int .i64 0,.int .i64 0,.int .i64 0])):=F
def Mb:SlTy prog 352 348 1 (.slice none 0 0) 24:=.of underlying352 F Y bl
def ru:ArrTy prog 365 16 102 1:=⟨underlying365,F⟩
def mG:ArrTy prog 366 16 22 1:=⟨underlying366,F⟩
def BY:kT prog 368 1 16=true:=F
def Vz:BuildTy prog 368 [(0,16),(16,16),(32,1)] [.int .u64 0,.int .u64 0,.int .u64 0,.int .u64 0,.int .u64 0,.int .u64 0,.int .u64 0,.int .u64 0,.int .u64 0,.int .u64 0,.int .u64 0,.int .u64 0,.int .u64 0,.int .u64 0,.int .u64 0,.int .u64 0,.slice none 0 0,.slice none 0 0,.slice none 0 0,.slice none 0 0,.slice none 0 0,.slice none 0 0,.slice none 0 0,.slice none 0 0,.slice none 0 0,.slice none 0 0,.slice none 0 0,.slice none 0 0,.slice none 0 0,.slice none 0 0,.slice none 0 0,.slice none 0 0,.int .i64 0]:=⟨F,_,underlying368,λ _=>by kernel_rfl⟩
def PM:(prog.info? 379).map (·.zero)=some (some (.int .u64 0)):=F
def DK:ArrTy prog 384 32 3 1:=⟨underlying384,F⟩
def PN:(prog.info? 384).map (·.zero)=some (some (.agg #[.int .i64 0,.int .i64 0,.int .i64 0,.int .i64 0,.int .i64 0,.int .i64 0,.int .i64 0,.int .i64 0,.int .i64 0,.int .i64 0,.int .i64 0,.int .i64 0,.int .i64 0,.int .i64 0,.int .i64 0,.int .i64 0,.int .i64 0,.int .i64 0,.int .i64 0,.int .i64 0,.int .i64 0,.int .i64 0,.int .i64 0,.int .i64 0,.int .i64 0,.int .i64 0,.int .i64 0,.int .i64 0,.int .i64 0,.int .i64 0,.int .i64 0,.int .i64 0])):=F
def PO:(prog.info? 398).map (·.zero)=some (some (.agg #[.int .u8 0,.int .u8 0])):=F
def rV:Enters prog 14:=.of func14 Y F
def VA:Enters prog 58:=.of func58 Y F
def VB:Enters prog 59:=.of func59 Y F
def VC:Enters prog 60:=.of func60 Y F
def VD:Enters prog 61:=.of func61 Y F
def VE:Enters prog 62:=.of func62 Y F
def VF:Enters prog 64:=.of func64 Y F
def VG:Enters prog 66:=.of func66 Y F
def Mc:Enters prog 68:=.of func68 Y F
def VH:Enters prog 77:=.of func77 Y F
def Tp:Enters prog 103:=.of func103 Y F
def Tq:Enters prog 104:=.of func104 Y F
def DL:Enters prog 105:=.of func105 Y F
def zh:Enters prog 106:=.of func106 Y F
def Tr:Enters prog 127:=.of func127 Y F
def Ts:Enters prog 129:=.of func129 Y F
def Tt:Enters prog 132:=.of func132 Y F
def Tu:Enters prog 133:=.of func133 Y F
def Tv:Enters prog 134:=.of func134 Y F
def Tw:Enters prog 135:=.of func135 Y F
def Tx:Enters prog 136:=.of func136 Y F
def Ty:Enters prog 137:=.of func137 Y F
def Md:Enters prog 158:=.of func158 Y F
def Tz:Enters prog 170:=.of func170 Y F
def TA:Enters prog 178:=.of func178 Y F
def TB:Enters prog 179:=.of func179 Y F
def TC:Enters prog 191:=.of func191 Y F
def TD:Enters prog 209:=.of func209 Y F
def TE:Enters prog 212:=.of func212 Y F
def TF:Enters prog 239:=.of func239 Y F
def zi:Enters prog 249:=.of func249 Y F
def TG:Enters prog 269:=.of func269 Y F
def TH:Enters prog 287:=.of func287 Y F
def TI:Enters prog 309:=.of func309 Y F
def TJ:Enters prog 319:=.of func319 Y F
def TK:Enters prog 321:=.of func321 Y F
def TL:Enters prog 326:=.of func326 Y F
def TM:Enters prog 334:=.of func334 Y F
def TN:Enters prog 350:=.of func350 Y F
instance en4:Ent prog 4:=Ent.mk' func4
instance en5:Ent prog 5:=Ent.mk' func5
instance en6:Ent prog 6:=Ent.mk' func6
instance en7:Ent prog 7:=Ent.mk' func7
instance en8:Ent prog 8:=Ent.mk' func8
instance en9:Ent prog 9:=Ent.mk' func9
instance en10:Ent prog 10:=Ent.mk' func10
instance en11:Ent prog 11:=Ent.mk' func11
instance en12:Ent prog 12:=Ent.mk' func12
instance en13:Ent prog 13:=Ent.mk' func13
instance en14:Ent prog 14:=Ent.mk' func14
instance en15:Ent prog 15:=Ent.mk' func15
instance en16:Ent prog 16:=Ent.mk' func16
instance en17:Ent prog 17:=Ent.mk' func17
instance en18:Ent prog 18:=Ent.mk' func18
instance en19:Ent prog 19:=Ent.mk' func19
instance en20:Ent prog 20:=Ent.mk' func20
instance en21:Ent prog 21:=Ent.mk' func21
instance en22:Ent prog 22:=Ent.mk' func22
instance en23:Ent prog 23:=Ent.mk' func23
instance en24:Ent prog 24:=Ent.mk' func24
instance en25:Ent prog 25:=Ent.mk' func25
instance en26:Ent prog 26:=Ent.mk' func26
instance en27:Ent prog 27:=Ent.mk' func27
instance en28:Ent prog 28:=Ent.mk' func28
instance en29:Ent prog 29:=Ent.mk' func29
instance en30:Ent prog 30:=Ent.mk' func30
instance en31:Ent prog 31:=Ent.mk' func31
instance en32:Ent prog 32:=Ent.mk' func32
instance en33:Ent prog 33:=Ent.mk' func33
instance en34:Ent prog 34:=Ent.mk' func34
instance en35:Ent prog 35:=Ent.mk' func35
instance en36:Ent prog 36:=Ent.mk' func36
instance en37:Ent prog 37:=Ent.mk' func37
instance en38:Ent prog 38:=Ent.mk' func38
instance en39:Ent prog 39:=Ent.mk' func39
instance en40:Ent prog 40:=Ent.mk' func40
instance en41:Ent prog 41:=Ent.mk' func41
instance en42:Ent prog 42:=Ent.mk' func42
instance en43:Ent prog 43:=Ent.mk' func43
instance en44:Ent prog 44:=Ent.mk' func44
instance en45:Ent prog 45:=Ent.mk' func45
instance en46:Ent prog 46:=Ent.mk' func46
instance en47:Ent prog 47:=Ent.mk' func47
instance en48:Ent prog 48:=Ent.mk' func48
instance en49:Ent prog 49:=Ent.mk' func49
instance en50:Ent prog 50:=Ent.mk' func50
instance en51:Ent prog 51:=Ent.mk' func51
instance en52:Ent prog 52:=Ent.mk' func52
instance en53:Ent prog 53:=Ent.mk' func53
instance en54:Ent prog 54:=Ent.mk' func54
instance en55:Ent prog 55:=Ent.mk' func55
instance en56:Ent prog 56:=Ent.mk' func56
instance en57:Ent prog 57:=Ent.mk' func57
instance en63:Ent prog 63:=Ent.mk' func63
instance en64:Ent prog 64:=Ent.mk' func64
instance en65:Ent prog 65:=Ent.mk' func65
instance en67:Ent prog 67:=Ent.mk' func67
instance en69:Ent prog 69:=Ent.mk' func69
instance en70:Ent prog 70:=Ent.mk' func70
instance en71:Ent prog 71:=Ent.mk' func71
instance en72:Ent prog 72:=Ent.mk' func72
instance en73:Ent prog 73:=Ent.mk' func73
instance en75:Ent prog 75:=Ent.mk' func75
instance en76:Ent prog 76:=Ent.mk' func76
instance en78:Ent prog 78:=Ent.mk' func78
instance en79:Ent prog 79:=Ent.mk' func79
instance en80:Ent prog 80:=Ent.mk' func80
instance en81:Ent prog 81:=Ent.mk' func81
instance en82:Ent prog 82:=Ent.mk' func82
instance en83:Ent prog 83:=Ent.mk' func83
instance en84:Ent prog 84:=Ent.mk' func84
instance en85:Ent prog 85:=Ent.mk' func85
instance en86:Ent prog 86:=Ent.mk' func86
instance en87:Ent prog 87:=Ent.mk' func87
instance en88:Ent prog 88:=Ent.mk' func88
instance en89:Ent prog 89:=Ent.mk' func89
instance en90:Ent prog 90:=Ent.mk' func90
instance en91:Ent prog 91:=Ent.mk' func91
instance en92:Ent prog 92:=Ent.mk' func92
instance en93:Ent prog 93:=Ent.mk' func93
instance en94:Ent prog 94:=Ent.mk' func94
instance en95:Ent prog 95:=Ent.mk' func95
instance en96:Ent prog 96:=Ent.mk' func96
instance en97:Ent prog 97:=Ent.mk' func97
instance en98:Ent prog 98:=Ent.mk' func98
instance en99:Ent prog 99:=Ent.mk' func99
instance en100:Ent prog 100:=Ent.mk' func100
instance en101:Ent prog 101:=Ent.mk' func101
instance en102:Ent prog 102:=Ent.mk' func102
instance en103:Ent prog 103:=Ent.mk' func103
instance en104:Ent prog 104:=Ent.mk' func104
instance en105:Ent prog 105:=Ent.mk' func105
instance en106:Ent prog 106:=Ent.mk' func106
instance en107:Ent prog 107:=Ent.mk' func107
instance en108:Ent prog 108:=Ent.mk' func108
instance en109:Ent prog 109:=Ent.mk' func109
instance en110:Ent prog 110:=Ent.mk' func110
instance en111:Ent prog 111:=Ent.mk' func111
instance en112:Ent prog 112:=Ent.mk' func112
instance en113:Ent prog 113:=Ent.mk' func113
instance en114:Ent prog 114:=Ent.mk' func114
instance en115:Ent prog 115:=Ent.mk' func115
instance en116:Ent prog 116:=Ent.mk' func116
instance en117:Ent prog 117:=Ent.mk' func117
instance en118:Ent prog 118:=Ent.mk' func118
instance en119:Ent prog 119:=Ent.mk' func119
instance en121:Ent prog 121:=Ent.mk' func121
instance en122:Ent prog 122:=Ent.mk' func122
instance en123:Ent prog 123:=Ent.mk' func123
instance en124:Ent prog 124:=Ent.mk' func124
instance en125:Ent prog 125:=Ent.mk' func125
instance en126:Ent prog 126:=Ent.mk' func126
instance en128:Ent prog 128:=Ent.mk' func128
instance en130:Ent prog 130:=Ent.mk' func130
instance en131:Ent prog 131:=Ent.mk' func131
instance en138:Ent prog 138:=Ent.mk' func138
instance en139:Ent prog 139:=Ent.mk' func139
instance en140:Ent prog 140:=Ent.mk' func140
instance en141:Ent prog 141:=Ent.mk' func141
instance en142:Ent prog 142:=Ent.mk' func142
instance en143:Ent prog 143:=Ent.mk' func143
instance en144:Ent prog 144:=Ent.mk' func144
instance en145:Ent prog 145:=Ent.mk' func145
instance en146:Ent prog 146:=Ent.mk' func146
instance en147:Ent prog 147:=Ent.mk' func147
instance en148:Ent prog 148:=Ent.mk' func148
instance en149:Ent prog 149:=Ent.mk' func149
instance en150:Ent prog 150:=Ent.mk' func150
instance en151:Ent prog 151:=Ent.mk' func151
instance en152:Ent prog 152:=Ent.mk' func152
instance en153:Ent prog 153:=Ent.mk' func153
instance en154:Ent prog 154:=Ent.mk' func154
instance en155:Ent prog 155:=Ent.mk' func155
instance en156:Ent prog 156:=Ent.mk' func156
instance en157:Ent prog 157:=Ent.mk' func157
instance en158:Ent prog 158:=Ent.mk' func158
instance en159:Ent prog 159:=Ent.mk' func159
instance en160:Ent prog 160:=Ent.mk' func160
instance en161:Ent prog 161:=Ent.mk' func161
instance en162:Ent prog 162:=Ent.mk' func162
instance en163:Ent prog 163:=Ent.mk' func163
instance en164:Ent prog 164:=Ent.mk' func164
instance en165:Ent prog 165:=Ent.mk' func165
instance en166:Ent prog 166:=Ent.mk' func166
instance en167:Ent prog 167:=Ent.mk' func167
instance en168:Ent prog 168:=Ent.mk' func168
instance en169:Ent prog 169:=Ent.mk' func169
instance en171:Ent prog 171:=Ent.mk' func171
instance en173:Ent prog 173:=Ent.mk' func173
instance en174:Ent prog 174:=Ent.mk' func174
instance en176:Ent prog 176:=Ent.mk' func176
instance en177:Ent prog 177:=Ent.mk' func177
instance en180:Ent prog 180:=Ent.mk' func180
instance en181:Ent prog 181:=Ent.mk' func181
instance en182:Ent prog 182:=Ent.mk' func182
instance en183:Ent prog 183:=Ent.mk' func183
instance en184:Ent prog 184:=Ent.mk' func184
instance en185:Ent prog 185:=Ent.mk' func185
instance en186:Ent prog 186:=Ent.mk' func186
instance en187:Ent prog 187:=Ent.mk' func187
instance en188:Ent prog 188:=Ent.mk' func188
instance en189:Ent prog 189:=Ent.mk' func189
instance en190:Ent prog 190:=Ent.mk' func190
instance en191:Ent prog 191:=Ent.mk' func191
instance en192:Ent prog 192:=Ent.mk' func192
instance en193:Ent prog 193:=Ent.mk' func193
instance en194:Ent prog 194:=Ent.mk' func194
instance en195:Ent prog 195:=Ent.mk' func195
instance en196:Ent prog 196:=Ent.mk' func196
instance en197:Ent prog 197:=Ent.mk' func197
instance en198:Ent prog 198:=Ent.mk' func198
instance en199:Ent prog 199:=Ent.mk' func199
instance en200:Ent prog 200:=Ent.mk' func200
instance en201:Ent prog 201:=Ent.mk' func201
instance en202:Ent prog 202:=Ent.mk' func202
instance en203:Ent prog 203:=Ent.mk' func203
instance en204:Ent prog 204:=Ent.mk' func204
instance en205:Ent prog 205:=Ent.mk' func205
instance en206:Ent prog 206:=Ent.mk' func206
instance en207:Ent prog 207:=Ent.mk' func207
instance en208:Ent prog 208:=Ent.mk' func208
instance en210:Ent prog 210:=Ent.mk' func210
instance en211:Ent prog 211:=Ent.mk' func211
instance en213:Ent prog 213:=Ent.mk' func213
instance en214:Ent prog 214:=Ent.mk' func214
instance en215:Ent prog 215:=Ent.mk' func215
instance en216:Ent prog 216:=Ent.mk' func216
instance en217:Ent prog 217:=Ent.mk' func217
instance en218:Ent prog 218:=Ent.mk' func218
instance en219:Ent prog 219:=Ent.mk' func219
instance en220:Ent prog 220:=Ent.mk' func220
instance en221:Ent prog 221:=Ent.mk' func221
instance en222:Ent prog 222:=Ent.mk' func222
instance en224:Ent prog 224:=Ent.mk' func224
instance en225:Ent prog 225:=Ent.mk' func225
instance en226:Ent prog 226:=Ent.mk' func226
instance en227:Ent prog 227:=Ent.mk' func227
instance en228:Ent prog 228:=Ent.mk' func228
instance en229:Ent prog 229:=Ent.mk' func229
instance en230:Ent prog 230:=Ent.mk' func230
instance en231:Ent prog 231:=Ent.mk' func231
instance en232:Ent prog 232:=Ent.mk' func232
instance en233:Ent prog 233:=Ent.mk' func233
instance en234:Ent prog 234:=Ent.mk' func234
instance en235:Ent prog 235:=Ent.mk' func235
instance en237:Ent prog 237:=Ent.mk' func237
instance en238:Ent prog 238:=Ent.mk' func238
instance en240:Ent prog 240:=Ent.mk' func240
instance en241:Ent prog 241:=Ent.mk' func241
instance en242:Ent prog 242:=Ent.mk' func242
instance en243:Ent prog 243:=Ent.mk' func243
instance en244:Ent prog 244:=Ent.mk' func244
instance en245:Ent prog 245:=Ent.mk' func245
instance en246:Ent prog 246:=Ent.mk' func246
instance en247:Ent prog 247:=Ent.mk' func247
instance en248:Ent prog 248:=Ent.mk' func248
instance en250:Ent prog 250:=Ent.mk' func250
instance en253:Ent prog 253:=Ent.mk' func253
instance en254:Ent prog 254:=Ent.mk' func254
instance en255:Ent prog 255:=Ent.mk' func255
instance en256:Ent prog 256:=Ent.mk' func256
instance en257:Ent prog 257:=Ent.mk' func257
instance en258:Ent prog 258:=Ent.mk' func258
instance en259:Ent prog 259:=Ent.mk' func259
instance en260:Ent prog 260:=Ent.mk' func260
instance en265:Ent prog 265:=Ent.mk' func265
instance en266:Ent prog 266:=Ent.mk' func266
instance en267:Ent prog 267:=Ent.mk' func267
instance en268:Ent prog 268:=Ent.mk' func268
instance en280:Ent prog 280:=Ent.mk' func280
instance en281:Ent prog 281:=Ent.mk' func281
instance en282:Ent prog 282:=Ent.mk' func282
instance en283:Ent prog 283:=Ent.mk' func283
instance en284:Ent prog 284:=Ent.mk' func284
instance en285:Ent prog 285:=Ent.mk' func285
instance en286:Ent prog 286:=Ent.mk' func286
instance en287:Ent prog 287:=Ent.mk' func287
instance en288:Ent prog 288:=Ent.mk' func288
instance en289:Ent prog 289:=Ent.mk' func289
instance en298:Ent prog 298:=Ent.mk' func298
instance en299:Ent prog 299:=Ent.mk' func299
instance en300:Ent prog 300:=Ent.mk' func300
instance en301:Ent prog 301:=Ent.mk' func301
instance en302:Ent prog 302:=Ent.mk' func302
instance en305:Ent prog 305:=Ent.mk' func305
instance en308:Ent prog 308:=Ent.mk' func308
instance en309:Ent prog 309:=Ent.mk' func309
instance en310:Ent prog 310:=Ent.mk' func310
instance en317:Ent prog 317:=Ent.mk' func317
instance en318:Ent prog 318:=Ent.mk' func318
instance en320:Ent prog 320:=Ent.mk' func320
instance en325:Ent prog 325:=Ent.mk' func325
instance en328:Ent prog 328:=Ent.mk' func328
instance en329:Ent prog 329:=Ent.mk' func329
instance en330:Ent prog 330:=Ent.mk' func330
instance en331:Ent prog 331:=Ent.mk' func331
instance en333:Ent prog 333:=Ent.mk' func333
instance en334:Ent prog 334:=Ent.mk' func334
instance en336:Ent prog 336:=Ent.mk' func336
instance en337:Ent prog 337:=Ent.mk' func337
instance en339:Ent prog 339:=Ent.mk' func339
instance en340:Ent prog 340:=Ent.mk' func340
instance en341:Ent prog 341:=Ent.mk' func341
instance en344:Ent prog 344:=Ent.mk' func344
instance en346:Ent prog 346:=Ent.mk' func346
instance en349:Ent prog 349:=Ent.mk' func349
instance en351:Ent prog 351:=Ent.mk' func351
instance en356:Ent prog 356:=Ent.mk' func356
instance en357:Ent prog 357:=Ent.mk' func357
instance en360:Ent prog 360:=Ent.mk' func360
instance tbI:Tb prog:=⟨[(7,[0,1,2,3]),(8,[0,1,2,3]),(13,[0,1]),(14,[0,1]),(18,[0]),(19,[0]),(29,[0,1,2,3,4,5,6]),(30,[0,1,2,3,4,5,6]),(35,[0,1,2,3,4,5,6]),(36,[0,1,2,3,4,5,6]),(49,[0,1]),(50,[0,1]),(62,[0,1,2,3]),(63,[0,1,2,3]),(66,[0,1,2,3]),(67,[0,1,2,3]),(68,[0,1,2,3]),(69,[0,1,2,3]),(74,[0,7]),(75,[0,7]),(80,[0,1]),(81,[0,1]),(85,[0,1]),(86,[0,1]),(112,[0,1]),(113,[0,1]),(114,[0,2,9,10]),(115,[0,2,9,10]),(129,[0]),(130,[0]),(146,[0,1]),(147,[0,1]),(155,[0,1,2]),(156,[0,1,2]),(175,[0,1]),(176,[0,1]),(186,[0,1,2,3,4]),(187,[0,1,2,3,4]),(218,[0,1]),(219,[0,1]),(220,[0,1,2]),(221,[0,1,2]),(223,[0,1]),(224,[0,1]),(228,[0,1,2,3,4,5]),(229,[0,1,2,3,4,5]),(234,[0,1,2,3]),(235,[0,1,2,3]),(252,[0,1,2,3]),(253,[0,1,2,3]),(256,[0,1]),(257,[0,1]),(261,[0,1,2,3]),(262,[0,1,2,3]),(265,[0,1,2]),(266,[0,1,2]),(275,[0,1,2]),(276,[0,1,2]),(283,[0,1]),(284,[0,1]),(300,[0,1,2,3,4]),(301,[0,1,2,3,4]),(309,[0,1]),(310,[0,1]),(311,[0]),(312,[0]),(320,[0,1]),(321,[0,1]),(326,[0,2]),(327,[0,2]),(334,[0,1,2]),(335,[0,1,2]),(337,[0,1]),(338,[0,1]),(350,[0,1,2,3]),(351,[0,1,2,3]),(367,[0,16,32]),(368,[0,16,32]),(397,[0,1]),(398,[0,1]),(424,[0,1,2,3]),(425,[0,1,2,3]),(435,[0,1,2,3,4,5,6,7,8,9,10]),(436,[0,1,2,3,4,5,6,7,8,9,10])],F,[(2,.i64),(3,.i64),(5,.u8),(6,.u8),(12,.u64),(21,.i32),(38,.i64),(102,.u64),(106,.u32),(108,.u64),(341,.i64),(379,.u64),(429,.u8),(430,.u8),(433,.i32),(434,.i32)],F,[1,2,3,4,5,6,9,10,11,12,15,16,17,20,21,22,23,24,25,26,27,28,31,32,33,34,37,38,40,41,43,45,46,47,48,51,52,54,56,57,58,59,60,61,64,65,70,71,73,76,77,78,79,82,83,84,87,88,89,90,91,92,93,95,97,98,99,100,101,102,103,104,105,106,107,108,110,111,116,118,119,120,121,122,123,124,125,126,127,128,131,132,133,134,135,136,137,138,139,140,141,142,143,144,145,149,150,151,152,154,157,158,160,161,162,163,164,166,167,169,171,173,174,177,179,180,181,182,183,184,185,189,190,192,193,194,195,196,197,198,199,201,202,203,204,205,206,207,208,209,211,212,213,215,217,222,226,227,230,231,233,237,238,239,240,241,242,243,244,245,246,247,248,249,250,251,254,255,258,259,260,263,264,267,268,270,271,272,273,274,277,278,279,280,281,282,285,287,289,290,291,292,293,294,295,296,297,298,299,302,303,304,305,306,307,308,313,314,315,316,317,318,319,322,323,324,325,328,330,331,333,336,339,340,341,343,344,345,346,347,348,349,352,353,354,355,356,357,358,359,360,361,362,363,364,369,370,371,372,374,376,377,378,379,380,381,382,383,385,386,387,388,389,390,391,392,393,395,400,401,402,403,404,405,406,407,408,409,410,411,412,413,414,415,416,417,418,419,420,421,422,423,429,430,431,432,433,434,437],F,F,[(7,4),(8,4),(13,2),(14,2),(18,1),(19,1),(29,7),(30,7),(35,7),(36,7),(49,2),(50,2),(62,4),(63,4),(66,4),(67,4),(68,4),(69,4),(74,8),(75,8),(80,2),(81,2),(85,2),(86,2),(112,2),(113,2),(114,11),(115,11),(129,1),(130,1),(146,2),(147,2),(155,3),(156,3),(159,4),(175,2),(176,2),(186,5),(187,5),(214,16),(218,2),(219,2),(220,3),(221,3),(223,2),(224,2),(228,6),(229,6),(234,4),(235,4),(252,4),(253,4),(256,2),(257,2),(261,4),(262,4),(265,3),(266,3),(275,3),(276,3),(283,2),(284,2),(300,5),(301,5),(309,2),(310,2),(311,2),(312,2),(320,2),(321,2),(326,3),(327,3),(334,3),(335,3),(337,2),(338,2),(350,4),(351,4),(365,16),(366,16),(367,33),(368,33),(384,32),(397,2),(398,2),(399,32),(424,4),(425,4),(435,11),(436,11)],F,[(22,3,1,.int .i64 0,8),(23,81,2,.agg #[.string wt,.bool false],24),(24,28,1,.slice none 0 0,24),(25,63,4,.agg #[.string wt,.int .i64 0,.int .i64 0,.slice none 0 0],56),(26,67,4,.agg #[.string wt,.int .i64 0,.int .i64 0,.slice none 0 0],56),(27,69,4,.agg #[.string wt,.int .i64 0,.int .i64 0,.int .i64 0],40),(28,9,1,.string wt,16),(34,36,7,.agg #[.int .i64 0,.string wt,.string wt,.string wt,.string wt,.bool false,.slice none 0 0],104),(58,5,1,.int .u8 0,1),(61,86,2,.agg #[.string wt,.string wt],32),(71,176,2,.agg #[.pointer none,.slice none 0 0],32),(103,22,1,.slice none 0 0,24),(152,4,1,.bool false,1),(174,177,1,.pointer none,8),(184,338,2,.agg #[.int .i32 0,.int .i32 0],8),(185,187,5,.agg #[.int .i64 0,.int .i64 0,.int .i64 0,.slice none 0 0,.slice none 0 0],72),(199,98,1,.nilFunc,8),(227,284,2,.agg #[.slice none 0 0,.int .i64 0],32),(242,21,1,.int .i32 0,4),(251,257,2,.agg #[.int .i64 0,.int .i64 0],16),(259,262,4,.agg #[.int .i32 0,.int .i64 0,.int .i64 0,.bool false],32),(264,266,3,.agg #[.int .i64 0,.bool false,.slice none 0 0],40),(268,102,1,.int .u64 0,8),(299,184,1,.slice none 0 0,24),(317,276,3,.agg #[.int .i32 0,.int .i64 0,.int .i64 0],24),(348,351,4,.agg #[.int .i64 0,.int .i64 0,.int .i64 0,.int .i64 0],32),(352,348,1,.slice none 0 0,24)],⟨bc,HL,DI,wm,rq,jS,bI,HN,cy,HO,Tc,Ft,rT,LX,BV,qq,QK,LY,Fw,LZ,M0,eu,Fx,M8,M9,rU,Mb,trivial⟩,[(3,.int .i64 0),(4,.bool false),(21,.int .i32 0),(28,.slice none 0 0),(30,.agg #[.slice none 0 0,.slice none 0 0,.slice none 0 0,.slice none 0 0,.slice none 0 0,.slice none 0 0,.slice none 0 0]),(36,.agg #[.int .i64 0,.string wt,.string wt,.string wt,.string wt,.bool false,.slice none 0 0]),(58,.slice none 0 0),(61,.slice none 0 0),(63,.agg #[.string wt,.int .i64 0,.int .i64 0,.slice none 0 0]),(67,.agg #[.string wt,.int .i64 0,.int .i64 0,.slice none 0 0]),(69,.agg #[.string wt,.int .i64 0,.int .i64 0,.int .i64 0]),(76,.nilFunc),(81,.agg #[.string wt,.bool false]),(86,.agg #[.string wt,.string wt]),(147,.agg #[.slice none 0 0,.slice none 0 0]),(159,.agg #[.int .u8 0,.int .u8 0,.int .u8 0,.int .u8 0]),(176,.agg #[.pointer none,.slice none 0 0]),(187,.agg #[.int .i64 0,.int .i64 0,.int .i64 0,.slice none 0 0,.slice none 0 0]),(214,.agg #[.int .u32 0,.int .u32 0,.int .u32 0,.int .u32 0,.int .u32 0,.int .u32 0,.int .u32 0,.int .u32 0,.int .u32 0,.int .u32 0,.int .u32 0,.int .u32 0,.int .u32 0,.int .u32 0,.int .u32 0,.int .u32 0]),(219,.agg #[.slice none 0 0,.bool false]),(224,.agg #[.slice none 0 0,.bool false]),(229,.agg #[.int .i64 0,.int .i64 0,.slice none 0 0,.slice none 0 0,.int .i64 0,.slice none 0 0]),(235,.agg #[.string wt,.int .i64 0,.int .i64 0,.int .i64 0]),(262,.agg #[.int .i32 0,.int .i64 0,.int .i64 0,.bool false]),(266,.agg #[.int .i64 0,.bool false,.slice none 0 0]),(276,.agg #[.int .i32 0,.int .i64 0,.int .i64 0]),(284,.agg #[.slice none 0 0,.int .i64 0]),(317,.slice none 0 0),(321,.agg #[.slice none 0 0,.bool false]),(335,.agg #[.int .u64 0,.int .u64 0,.bool false]),(338,.agg #[.int .i32 0,.int .i32 0]),(351,.agg #[.int .i64 0,.int .i64 0,.int .i64 0,.int .i64 0]),(379,.int .u64 0),(384,.agg #[.int .i64 0,.int .i64 0,.int .i64 0,.int .i64 0,.int .i64 0,.int .i64 0,.int .i64 0,.int .i64 0,.int .i64 0,.int .i64 0,.int .i64 0,.int .i64 0,.int .i64 0,.int .i64 0,.int .i64 0,.int .i64 0,.int .i64 0,.int .i64 0,.int .i64 0,.int .i64 0,.int .i64 0,.int .i64 0,.int .i64 0,.int .i64 0,.int .i64 0,.int .i64 0,.int .i64 0,.int .i64 0,.int .i64 0,.int .i64 0,.int .i64 0,.int .i64 0]),(398,.agg #[.int .u8 0,.int .u8 0])],⟨Ve,Vf,T0,T4,T5,T6,T7,T8,vu,Ta,vy,Te,Tf,Tg,Ps,Pu,Pw,Px,Py,Pz,PA,PC,PD,PE,zg,qt,PG,PI,PJ,sP,PK,PL,PM,PN,PO,trivial⟩⟩
def mixed:prog.follows .mixedOrders=true:=F
instance mxI:Mx prog:=⟨mixed⟩
abbrev t6:=CallsV prog
