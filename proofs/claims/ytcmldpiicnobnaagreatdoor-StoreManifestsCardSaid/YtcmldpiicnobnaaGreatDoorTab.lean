/-
 TABLES:closed facts on the types and functions of this seat (printed by our own program gtypes.py).
-/
import Derived.Test.YtcmldpiicnobnaaGreatDoorKp
import Derived.Test.YtcmldpiicnobnaaGreatDoorKau
import Derived.Test.YtcmldpiicnobnaaGreatDoorRows
set_option linter.all false
set_option maxRecDepth 100000
open Go.Proofs.Tryz
namespace Go.Proofs.YtcmldpiicnobnaaGreatDoor
open Go.RowKit Go.Kw
def Mp:jh prog 3=true:=by kernel_rfl
def dZ:(prog.info? 3).map (·.size)=some 1:=by kernel_rfl
def Mq:(prog.info? 4).map (·.size)=some 1:=by kernel_rfl
def Mr:(prog.info? 5).map (·.size)=some 1:=by kernel_rfl
def Ms:jh prog 9=true:=by kernel_rfl
def HV:(prog.info? 9).map (·.size)=some 1:=by kernel_rfl
def Af:(prog.info? 22).map (·.size)=some 1:=by kernel_rfl
def bD:SlTy prog 22 3 1 (.int .i64 0) 8:=.of underlying22 (by kernel_rfl) J (by decide)
def IT:(prog.info? 23).map (·.size)=some 1:=by kernel_rfl
def jF:SlTy prog 23 69 2 (.agg #[.string ByteArray.empty,.bool false]) 24:=.of underlying23 (by kernel_rfl) J (by decide)
def Mt:(prog.info? 24).map (·.size)=some 1:=by kernel_rfl
def yj:SlTy prog 24 71 2 (.agg #[.int .i64 0,.slice none 0 0]) 32:=.of underlying24 (by kernel_rfl) J (by decide)
def KJ:SlTy prog 25 112 2 (.agg #[.int .i64 0,.string ByteArray.empty]) 24:=.of underlying25 (by kernel_rfl) J (by decide)
def nQ:BuildTy prog 27 [(0,1),(1,1),(2,1),(3,1),(4,1)] [.slice none 0 0,.int .i64 0,.int .i64 0,.slice none 0 0,.slice none 0 0]:=⟨by kernel_rfl,_,underlying27,λ _=>by kernel_rfl⟩
def bt:db prog 27 5=true:=by kernel_rfl
def KK:(prog.info? 27).map (·.zero)=some (some (.agg #[.slice none 0 0,.int .i64 0,.int .i64 0,.slice none 0 0,.slice none 0 0])):=by kernel_rfl
def C0:SlTy prog 28 121 2 (.agg #[.string ByteArray.empty,.int .i64 0]) 24:=.of underlying28 (by kernel_rfl) J (by decide)
def IU:(prog.info? 29).map (·.size)=some 1:=by kernel_rfl
def iu:SlTy prog 29 119 2 (.agg #[.string ByteArray.empty,.int .i64 0]) 24:=.of underlying29 (by kernel_rfl) J (by decide)
def cZ:SlTy prog 30 83 4 (.agg #[.int .i64 0,.string ByteArray.empty,.string ByteArray.empty,.string ByteArray.empty]) 56:=.of underlying30 (by kernel_rfl) J (by decide)
def nR:BuildTy prog 32 [(0,1),(1,1),(2,1),(3,1)] [.slice none 0 0,.slice none 0 0,.slice none 0 0,.slice none 0 0]:=⟨by kernel_rfl,_,underlying32,λ _=>by kernel_rfl⟩
def cI:db prog 32 4=true:=by kernel_rfl
def KL:(prog.info? 32).map (·.zero)=some (some (.agg #[.slice none 0 0,.slice none 0 0,.slice none 0 0,.slice none 0 0])):=by kernel_rfl
def cN:SlTy prog 43 5 1 (.int .u8 0) 1:=.of underlying43 (by kernel_rfl) J (by decide)
def NG:BuildTy prog 55 [(0,1),(1,1)] [.slice none 0 0,.int .i64 0]:=⟨by kernel_rfl,_,underlying55,λ _=>by kernel_rfl⟩
def KM:(prog.info? 59).map (·.zero)=some (some (.agg #[.pointer none,.slice none 0 0])):=by kernel_rfl
def wR:(prog.info? 60).map (·.size)=some 1:=by kernel_rfl
def bo:SlTy prog 60 9 1 (.string ByteArray.empty) 16:=.of underlying60 (by kernel_rfl) J (by decide)
def u4:BuildTy prog 69 [(0,1),(1,1)] [.string ByteArray.empty,.bool false]:=⟨by kernel_rfl,_,underlying69,λ _=>by kernel_rfl⟩
def KN:(prog.info? 69).map (·.zero)=some (some (.agg #[.string ByteArray.empty,.bool false])):=by kernel_rfl
def HW:qW prog 71 1 1=true:=by kernel_rfl
def KO:BuildTy prog 71 [(0,1),(1,1)] [.int .i64 0,.slice none 0 0]:=⟨by kernel_rfl,_,underlying71,λ _=>by kernel_rfl⟩
def KQ:(prog.info? 71).map (·.zero)=some (some (.agg #[.int .i64 0,.slice none 0 0])):=by kernel_rfl
def gB:BuildTy prog 83 [(0,1),(1,1),(2,1),(3,1)] [.int .i64 0,.string ByteArray.empty,.string ByteArray.empty,.string ByteArray.empty]:=⟨by kernel_rfl,_,underlying83,λ _=>by kernel_rfl⟩
def Mu:db prog 83 4=true:=by kernel_rfl
def KR:(prog.info? 83).map (·.zero)=some (some (.agg #[.int .i64 0,.string ByteArray.empty,.string ByteArray.empty,.string ByteArray.empty])):=by kernel_rfl
def IV:(prog.info? 89).map (·.size)=some 1:=by kernel_rfl
def ry:SlTy prog 89 60 1 (.slice none 0 0) 24:=.of underlying89 (by kernel_rfl) J (by decide)
def Mv:(prog.info? 90).map (·.size)=some 1:=by kernel_rfl
def lr:SlTy prog 90 135 4 (.agg #[.string ByteArray.empty,.int .i64 0,.int .i64 0,.slice none 0 0]) 56:=.of underlying90 (by kernel_rfl) J (by decide)
def Mw:(prog.info? 91).map (·.size)=some 1:=by kernel_rfl
def qI:SlTy prog 91 144 4 (.agg #[.string ByteArray.empty,.int .i64 0,.int .i64 0,.slice none 0 0]) 56:=.of underlying91 (by kernel_rfl) J (by decide)
def sG:(prog.info? 92).map (·.size)=some 1:=by kernel_rfl
def iv:SlTy prog 92 183 4 (.agg #[.string ByteArray.empty,.int .i64 0,.int .i64 0,.int .i64 0]) 40:=.of underlying92 (by kernel_rfl) J (by decide)
def wS:BuildTy prog 94 [(0,1),(1,1),(2,1),(3,1),(4,1),(5,1),(6,1)] [.slice none 0 0,.slice none 0 0,.slice none 0 0,.slice none 0 0,.slice none 0 0,.slice none 0 0,.slice none 0 0]:=⟨by kernel_rfl,_,underlying94,λ _=>by kernel_rfl⟩
def cJ:db prog 94 7=true:=by kernel_rfl
def de:(prog.info? 94).map (·.zero)=some (some (.agg #[.slice none 0 0,.slice none 0 0,.slice none 0 0,.slice none 0 0,.slice none 0 0,.slice none 0 0,.slice none 0 0])):=by kernel_rfl
def KS:ArrTy prog 102 4 5 1:=⟨underlying102,by kernel_rfl⟩
def KT:BuildAr prog 102 4 5 [.int .u8 0,.int .u8 0,.int .u8 0,.int .u8 0]:=⟨by kernel_rfl,underlying102,by kernel_rfl⟩
def lu:db prog 102 4=true:=by kernel_rfl
def HX:(prog.info? 102).map (·.zero)=some (some (.agg #[.int .u8 0,.int .u8 0,.int .u8 0,.int .u8 0])):=by kernel_rfl
def Ag:jh prog 104=true:=by kernel_rfl
def KU:(prog.info? 104).map (·.size)=some 1:=by kernel_rfl
def IW:BuildTy prog 112 [(0,1),(1,1)] [.int .i64 0,.string ByteArray.empty]:=⟨by kernel_rfl,_,underlying112,λ _=>by kernel_rfl⟩
def KX:db prog 112 2=true:=by kernel_rfl
def HY:(prog.info? 112).map (·.zero)=some (some (.agg #[.int .i64 0,.string ByteArray.empty])):=by kernel_rfl
def Ah:BuildTy prog 119 [(0,1),(1,1)] [.string ByteArray.empty,.int .i64 0]:=⟨by kernel_rfl,_,underlying119,λ _=>by kernel_rfl⟩
def KZ:db prog 119 2=true:=by kernel_rfl
def HZ:(prog.info? 119).map (·.zero)=some (some (.agg #[.string ByteArray.empty,.int .i64 0])):=by kernel_rfl
def My:BuildTy prog 121 [(0,1),(1,1)] [.string ByteArray.empty,.int .i64 0]:=⟨by kernel_rfl,_,underlying121,λ _=>by kernel_rfl⟩
def I0:(prog.info? 121).map (·.zero)=some (some (.agg #[.string ByteArray.empty,.int .i64 0])):=by kernel_rfl
def bB:SlTy prog 128 139 8 (.agg #[.slice none 0 0,.slice none 0 0,.slice none 0 0,.slice none 0 0,.slice none 0 0,.slice none 0 0,.slice none 0 0,.int .i64 0]) 176:=.of underlying128 (by kernel_rfl) J (by decide)
def Fp:(prog.info? 133).map (·.size)=some 1:=by kernel_rfl
def wT:SlTy prog 133 142 2 (.agg #[.string ByteArray.empty,.string ByteArray.empty]) 32:=.of underlying133 (by kernel_rfl) J (by decide)
def wU:qW prog 135 3 3=true:=by kernel_rfl
def IX:BuildTy prog 135 [(0,1),(1,1),(2,1),(3,1)] [.string ByteArray.empty,.int .i64 0,.int .i64 0,.slice none 0 0]:=⟨by kernel_rfl,_,underlying135,λ _=>by kernel_rfl⟩
def I1:(prog.info? 135).map (·.zero)=some (some (.agg #[.string ByteArray.empty,.int .i64 0,.int .i64 0,.slice none 0 0])):=by kernel_rfl
def Fq:BuildTy prog 139 [(0,7),(7,1)] [.slice none 0 0,.slice none 0 0,.slice none 0 0,.slice none 0 0,.slice none 0 0,.slice none 0 0,.slice none 0 0,.int .i64 0]:=⟨by kernel_rfl,_,underlying139,λ _=>by kernel_rfl⟩
def I2:(prog.info? 139).map (·.zero)=some (some (.agg #[.slice none 0 0,.slice none 0 0,.slice none 0 0,.slice none 0 0,.slice none 0 0,.slice none 0 0,.slice none 0 0,.int .i64 0])):=by kernel_rfl
def Ai:BuildTy prog 142 [(0,1),(1,1)] [.string ByteArray.empty,.string ByteArray.empty]:=⟨by kernel_rfl,_,underlying142,λ _=>by kernel_rfl⟩
def I3:(prog.info? 142).map (·.zero)=some (some (.agg #[.string ByteArray.empty,.string ByteArray.empty])):=by kernel_rfl
def Fs:BuildTy prog 144 [(0,1),(1,1),(2,1),(3,1)] [.string ByteArray.empty,.int .i64 0,.int .i64 0,.slice none 0 0]:=⟨by kernel_rfl,_,underlying144,λ _=>by kernel_rfl⟩
def yl:db prog 144 4=true:=by kernel_rfl
def I4:(prog.info? 144).map (·.zero)=some (some (.agg #[.string ByteArray.empty,.int .i64 0,.int .i64 0,.slice none 0 0])):=by kernel_rfl
def ym:ArrTy prog 156 16 104 1:=⟨underlying156,by kernel_rfl⟩
def I5:(prog.info? 156).map (·.zero)=some (some (.agg #[.int .u32 0,.int .u32 0,.int .u32 0,.int .u32 0,.int .u32 0,.int .u32 0,.int .u32 0,.int .u32 0,.int .u32 0,.int .u32 0,.int .u32 0,.int .u32 0,.int .u32 0,.int .u32 0,.int .u32 0,.int .u32 0])):=by kernel_rfl
def IY:SlTy prog 172 94 7 (.agg #[.slice none 0 0,.slice none 0 0,.slice none 0 0,.slice none 0 0,.slice none 0 0,.slice none 0 0,.slice none 0 0]) 168:=.of underlying172 (by kernel_rfl) J (by decide)
def sH:BuildTy prog 183 [(0,1),(1,1),(2,1),(3,1)] [.string ByteArray.empty,.int .i64 0,.int .i64 0,.int .i64 0]:=⟨by kernel_rfl,_,underlying183,λ _=>by kernel_rfl⟩
def I6:(prog.info? 183).map (·.zero)=some (some (.agg #[.string ByteArray.empty,.int .i64 0,.int .i64 0,.int .i64 0])):=by kernel_rfl
def I7:(prog.info? 189).map (·.zero)=some (some (.agg #[.int .u8 0,.int .u8 0,.int .u8 0,.int .u8 0,.int .u8 0,.int .u8 0,.int .u8 0,.int .u8 0,.int .u8 0,.int .u8 0,.int .u8 0,.int .u8 0,.int .u8 0,.int .u8 0,.int .u8 0,.int .u8 0,.int .u8 0,.int .u8 0,.int .u8 0,.int .u8 0,.int .u8 0,.int .u8 0,.int .u8 0,.int .u8 0])):=by kernel_rfl
def Ft:(prog.info? 190).map (·.size)=some 1:=by kernel_rfl
def Fu:BuildTy prog 214 [(0,1),(1,1)] [.slice none 0 0,.bool false]:=⟨by kernel_rfl,_,underlying214,λ _=>by kernel_rfl⟩
def Fv:SlTy prog 223 22 1 (.slice none 0 0) 24:=.of underlying223 (by kernel_rfl) J (by decide)
def Mz:BuildTy prog 251 [(0,1),(1,1),(2,1),(3,1)] [.slice none 0 0,.int .i64 0,.int .i64 0,.bool false]:=⟨by kernel_rfl,_,underlying251,λ _=>by kernel_rfl⟩
def wV:BuildTy prog 254 [(0,1),(1,1)] [.slice none 0 0,.slice none 0 0]:=⟨by kernel_rfl,_,underlying254,λ _=>by kernel_rfl⟩
def qJ:db prog 254 2=true:=by kernel_rfl
def I8:(prog.info? 254).map (·.zero)=some (some (.agg #[.slice none 0 0,.slice none 0 0])):=by kernel_rfl
def sI:SlTy prog 259 4 1 (.bool false) 1:=.of underlying259 (by kernel_rfl) J (by decide)
def IZ:BuildTy prog 263 [(0,1),(1,1),(2,1)] [.int .i64 0,.int .u64 0,.int .i64 0]:=⟨by kernel_rfl,_,underlying263,λ _=>by kernel_rfl⟩
def I9:(prog.info? 271).map (·.zero)=some (some (.agg #[.int .u8 0,.int .u8 0])):=by kernel_rfl
def Fw:SlTy prog 289 292 4 (.agg #[.int .i32 0,.int .i64 0,.int .i64 0,.bool false]) 32:=.of underlying289 (by kernel_rfl) J (by decide)
def J0:BuildTy prog 292 [(0,1),(1,1),(2,1),(3,1)] [.int .i32 0,.int .i64 0,.int .i64 0,.bool false]:=⟨by kernel_rfl,_,underlying292,λ _=>by kernel_rfl⟩
def Ia:(prog.info? 292).map (·.zero)=some (some (.agg #[.int .i32 0,.int .i64 0,.int .i64 0,.bool false])):=by kernel_rfl
def dy:SlTy prog 294 296 3 (.agg #[.int .i64 0,.bool false,.slice none 0 0]) 40:=.of underlying294 (by kernel_rfl) J (by decide)
def Fx:BuildTy prog 296 [(0,1),(1,1),(2,1)] [.int .i64 0,.bool false,.slice none 0 0]:=⟨by kernel_rfl,_,underlying296,λ _=>by kernel_rfl⟩
def u5:db prog 296 3=true:=by kernel_rfl
def u6:(prog.info? 296).map (·.zero)=some (some (.agg #[.int .i64 0,.bool false,.slice none 0 0])):=by kernel_rfl
def J1:SlTy prog 298 190 1 (.int .u64 0) 8:=.of underlying298 (by kernel_rfl) J (by decide)
def sJ:Enters prog 15:=.of func15 J (by kernel_rfl)
def wW:Enters prog 18:=.of func18 J (by kernel_rfl)
def MA:Enters prog 35:=.of func35 J (by kernel_rfl)
def MB:Enters prog 36:=.of func36 J (by kernel_rfl)
def J2:Enters prog 51:=.of func51 J (by kernel_rfl)
def J3:Enters prog 52:=.of func52 J (by kernel_rfl)
def Fy:Enters prog 73:=.of func73 J (by kernel_rfl)
def MC:Enters prog 87:=.of func87 J (by kernel_rfl)
def L2:Enters prog 159:=.of func159 J (by kernel_rfl)
def L3:Enters prog 160:=.of func160 J (by kernel_rfl)
def Fz:Enters prog 208:=.of func208 J (by kernel_rfl)
instance en4:Ent prog 4:=Ent.mk' func4
instance en5:Ent prog 5:=Ent.mk' func5
instance en6:Ent prog 6:=Ent.mk' func6
instance en7:Ent prog 7:=Ent.mk' func7
instance en8:Ent prog 8:=Ent.mk' func8
instance en9:Ent prog 9:=Ent.mk' func9
instance en10:Ent prog 10:=Ent.mk' func10
instance en11:Ent prog 11:=Ent.mk' func11
instance en12:Ent prog 12:=Ent.mk' func12
instance en13:Ent prog 13:=Ent.mk' func13
instance en14:Ent prog 14:=Ent.mk' func14
instance en15:Ent prog 15:=Ent.mk' func15
instance en16:Ent prog 16:=Ent.mk' func16
instance en17:Ent prog 17:=Ent.mk' func17
instance en19:Ent prog 19:=Ent.mk' func19
instance en20:Ent prog 20:=Ent.mk' func20
instance en21:Ent prog 21:=Ent.mk' func21
instance en22:Ent prog 22:=Ent.mk' func22
instance en23:Ent prog 23:=Ent.mk' func23
instance en24:Ent prog 24:=Ent.mk' func24
instance en25:Ent prog 25:=Ent.mk' func25
instance en26:Ent prog 26:=Ent.mk' func26
instance en27:Ent prog 27:=Ent.mk' func27
instance en28:Ent prog 28:=Ent.mk' func28
instance en29:Ent prog 29:=Ent.mk' func29
instance en30:Ent prog 30:=Ent.mk' func30
instance en31:Ent prog 31:=Ent.mk' func31
instance en32:Ent prog 32:=Ent.mk' func32
instance en33:Ent prog 33:=Ent.mk' func33
instance en34:Ent prog 34:=Ent.mk' func34
instance en35:Ent prog 35:=Ent.mk' func35
instance en36:Ent prog 36:=Ent.mk' func36
instance en37:Ent prog 37:=Ent.mk' func37
instance en38:Ent prog 38:=Ent.mk' func38
instance en39:Ent prog 39:=Ent.mk' func39
instance en40:Ent prog 40:=Ent.mk' func40
instance en41:Ent prog 41:=Ent.mk' func41
instance en42:Ent prog 42:=Ent.mk' func42
instance en43:Ent prog 43:=Ent.mk' func43
instance en44:Ent prog 44:=Ent.mk' func44
instance en45:Ent prog 45:=Ent.mk' func45
instance en46:Ent prog 46:=Ent.mk' func46
instance en47:Ent prog 47:=Ent.mk' func47
instance en48:Ent prog 48:=Ent.mk' func48
instance en51:Ent prog 51:=Ent.mk' func51
instance en52:Ent prog 52:=Ent.mk' func52
instance en53:Ent prog 53:=Ent.mk' func53
instance en54:Ent prog 54:=Ent.mk' func54
instance en55:Ent prog 55:=Ent.mk' func55
instance en57:Ent prog 57:=Ent.mk' func57
instance en58:Ent prog 58:=Ent.mk' func58
instance en59:Ent prog 59:=Ent.mk' func59
instance en60:Ent prog 60:=Ent.mk' func60
instance en61:Ent prog 61:=Ent.mk' func61
instance en62:Ent prog 62:=Ent.mk' func62
instance en63:Ent prog 63:=Ent.mk' func63
instance en64:Ent prog 64:=Ent.mk' func64
instance en65:Ent prog 65:=Ent.mk' func65
instance en66:Ent prog 66:=Ent.mk' func66
instance en67:Ent prog 67:=Ent.mk' func67
instance en68:Ent prog 68:=Ent.mk' func68
instance en69:Ent prog 69:=Ent.mk' func69
instance en70:Ent prog 70:=Ent.mk' func70
instance en71:Ent prog 71:=Ent.mk' func71
instance en72:Ent prog 72:=Ent.mk' func72
instance en73:Ent prog 73:=Ent.mk' func73
instance en74:Ent prog 74:=Ent.mk' func74
instance en75:Ent prog 75:=Ent.mk' func75
instance en76:Ent prog 76:=Ent.mk' func76
instance en77:Ent prog 77:=Ent.mk' func77
instance en78:Ent prog 78:=Ent.mk' func78
instance en79:Ent prog 79:=Ent.mk' func79
instance en80:Ent prog 80:=Ent.mk' func80
instance en81:Ent prog 81:=Ent.mk' func81
instance en82:Ent prog 82:=Ent.mk' func82
instance en83:Ent prog 83:=Ent.mk' func83
instance en84:Ent prog 84:=Ent.mk' func84
instance en85:Ent prog 85:=Ent.mk' func85
instance en86:Ent prog 86:=Ent.mk' func86
instance en88:Ent prog 88:=Ent.mk' func88
instance en92:Ent prog 92:=Ent.mk' func92
instance en93:Ent prog 93:=Ent.mk' func93
instance en94:Ent prog 94:=Ent.mk' func94
instance en95:Ent prog 95:=Ent.mk' func95
instance en96:Ent prog 96:=Ent.mk' func96
instance en102:Ent prog 102:=Ent.mk' func102
instance en103:Ent prog 103:=Ent.mk' func103
instance en104:Ent prog 104:=Ent.mk' func104
instance en105:Ent prog 105:=Ent.mk' func105
instance en106:Ent prog 106:=Ent.mk' func106
instance en107:Ent prog 107:=Ent.mk' func107
instance en108:Ent prog 108:=Ent.mk' func108
instance en109:Ent prog 109:=Ent.mk' func109
instance en110:Ent prog 110:=Ent.mk' func110
instance en111:Ent prog 111:=Ent.mk' func111
instance en112:Ent prog 112:=Ent.mk' func112
instance en113:Ent prog 113:=Ent.mk' func113
instance en114:Ent prog 114:=Ent.mk' func114
instance en115:Ent prog 115:=Ent.mk' func115
instance en116:Ent prog 116:=Ent.mk' func116
instance en117:Ent prog 117:=Ent.mk' func117
instance en118:Ent prog 118:=Ent.mk' func118
instance en119:Ent prog 119:=Ent.mk' func119
instance en120:Ent prog 120:=Ent.mk' func120
instance en121:Ent prog 121:=Ent.mk' func121
instance en122:Ent prog 122:=Ent.mk' func122
instance en128:Ent prog 128:=Ent.mk' func128
instance en129:Ent prog 129:=Ent.mk' func129
instance en130:Ent prog 130:=Ent.mk' func130
instance en131:Ent prog 131:=Ent.mk' func131
instance en132:Ent prog 132:=Ent.mk' func132
instance en133:Ent prog 133:=Ent.mk' func133
instance en143:Ent prog 143:=Ent.mk' func143
instance en145:Ent prog 145:=Ent.mk' func145
instance en146:Ent prog 146:=Ent.mk' func146
instance en147:Ent prog 147:=Ent.mk' func147
instance en148:Ent prog 148:=Ent.mk' func148
instance en149:Ent prog 149:=Ent.mk' func149
instance en150:Ent prog 150:=Ent.mk' func150
instance en151:Ent prog 151:=Ent.mk' func151
instance en152:Ent prog 152:=Ent.mk' func152
instance en153:Ent prog 153:=Ent.mk' func153
instance en154:Ent prog 154:=Ent.mk' func154
instance en155:Ent prog 155:=Ent.mk' func155
instance en156:Ent prog 156:=Ent.mk' func156
instance en157:Ent prog 157:=Ent.mk' func157
instance en158:Ent prog 158:=Ent.mk' func158
instance en159:Ent prog 159:=Ent.mk' func159
instance en160:Ent prog 160:=Ent.mk' func160
instance en161:Ent prog 161:=Ent.mk' func161
instance en162:Ent prog 162:=Ent.mk' func162
instance en168:Ent prog 168:=Ent.mk' func168
instance en169:Ent prog 169:=Ent.mk' func169
instance en170:Ent prog 170:=Ent.mk' func170
instance en171:Ent prog 171:=Ent.mk' func171
instance en172:Ent prog 172:=Ent.mk' func172
instance en173:Ent prog 173:=Ent.mk' func173
instance en182:Ent prog 182:=Ent.mk' func182
instance en183:Ent prog 183:=Ent.mk' func183
instance en184:Ent prog 184:=Ent.mk' func184
instance en185:Ent prog 185:=Ent.mk' func185
instance en186:Ent prog 186:=Ent.mk' func186
instance en187:Ent prog 187:=Ent.mk' func187
instance en188:Ent prog 188:=Ent.mk' func188
instance en189:Ent prog 189:=Ent.mk' func189
instance en190:Ent prog 190:=Ent.mk' func190
instance en191:Ent prog 191:=Ent.mk' func191
instance en192:Ent prog 192:=Ent.mk' func192
instance en195:Ent prog 195:=Ent.mk' func195
instance en196:Ent prog 196:=Ent.mk' func196
instance en201:Ent prog 201:=Ent.mk' func201
instance en202:Ent prog 202:=Ent.mk' func202
instance en203:Ent prog 203:=Ent.mk' func203
instance en204:Ent prog 204:=Ent.mk' func204
instance en205:Ent prog 205:=Ent.mk' func205
instance en206:Ent prog 206:=Ent.mk' func206
instance en207:Ent prog 207:=Ent.mk' func207
instance en208:Ent prog 208:=Ent.mk' func208
instance en209:Ent prog 209:=Ent.mk' func209
instance en210:Ent prog 210:=Ent.mk' func210
instance en211:Ent prog 211:=Ent.mk' func211
instance en212:Ent prog 212:=Ent.mk' func212
instance en213:Ent prog 213:=Ent.mk' func213
instance en214:Ent prog 214:=Ent.mk' func214
instance en215:Ent prog 215:=Ent.mk' func215
instance en216:Ent prog 216:=Ent.mk' func216
instance en217:Ent prog 217:=Ent.mk' func217
instance tbI:Tb prog:=⟨[(7,[0,1,2,3]),(8,[0,1,2,3]),(13,[0,1]),(14,[0,1]),(18,[0]),(19,[0]),(26,[0,1,2,3,4]),(27,[0,1,2,3,4]),(31,[0,1,2,3]),(32,[0,1,2,3]),(54,[0,1]),(55,[0,1]),(58,[0,1]),(59,[0,1]),(68,[0,1]),(69,[0,1]),(70,[0,1]),(71,[0,1]),(82,[0,1,2,3]),(83,[0,1,2,3]),(93,[0,1,2,3,4,5,6]),(94,[0,1,2,3,4,5,6]),(111,[0,1]),(112,[0,1]),(118,[0,1]),(119,[0,1]),(120,[0,1]),(121,[0,1]),(134,[0,1,2,3]),(135,[0,1,2,3]),(138,[0,7]),(139,[0,7]),(141,[0,1]),(142,[0,1]),(143,[0,1,2,3]),(144,[0,1,2,3]),(182,[0,1,2,3]),(183,[0,1,2,3]),(213,[0,1]),(214,[0,1]),(243,[0,1,2]),(244,[0,1,2]),(250,[0,1,2,3]),(251,[0,1,2,3]),(253,[0,1]),(254,[0,1]),(262,[0,1,2]),(263,[0,1,2]),(270,[0,1]),(271,[0,1]),(277,[0]),(278,[0]),(291,[0,1,2,3]),(292,[0,1,2,3]),(295,[0,1,2]),(296,[0,1,2]),(304,[0,1,2,3]),(305,[0,1,2,3]),(314,[0,1,2,3,4,5,6,7,8,9,10]),(315,[0,1,2,3,4,5,6,7,8,9,10])],by kernel_rfl,[(2,.i64),(3,.i64),(5,.u8),(6,.u8),(12,.u64),(21,.i32),(37,.i64),(104,.u32),(108,.u64),(190,.u64),(202,.i64),(309,.u8),(310,.u8),(312,.i32),(313,.i32)],by kernel_rfl,[1,2,3,4,5,6,9,10,11,12,15,16,17,20,21,22,23,24,25,28,29,30,34,35,36,37,39,41,42,43,44,45,46,48,49,51,52,53,56,57,60,61,62,64,65,66,67,72,73,75,76,77,78,79,80,81,84,85,86,87,88,89,90,91,92,95,96,97,98,99,100,101,103,104,105,106,107,108,109,110,113,114,115,116,117,123,124,125,127,128,130,131,132,133,137,140,145,146,147,148,149,150,151,152,153,154,155,157,159,160,161,162,163,164,166,167,168,169,170,171,172,174,175,176,177,178,179,180,181,184,185,186,187,188,190,191,192,194,196,197,198,200,201,202,204,205,206,207,208,209,210,211,212,215,217,219,220,221,222,223,224,225,227,228,229,230,233,234,235,236,237,238,239,241,242,245,246,248,249,252,256,257,258,259,261,264,265,267,268,274,275,276,280,282,283,285,286,289,290,293,294,297,298,300,301,302,303,309,310,311,312,313],by kernel_rfl,by kernel_rfl,[(7,4),(8,4),(13,2),(14,2),(18,1),(19,1),(26,5),(27,5),(31,4),(32,4),(54,2),(55,2),(58,2),(59,2),(68,2),(69,2),(70,2),(71,2),(82,4),(83,4),(93,7),(94,7),(102,4),(111,2),(112,2),(118,2),(119,2),(120,2),(121,2),(134,4),(135,4),(138,8),(139,8),(141,2),(142,2),(143,4),(144,4),(156,16),(182,4),(183,4),(189,24),(213,2),(214,2),(231,20),(243,3),(244,3),(250,4),(251,4),(253,2),(254,2),(262,3),(263,3),(270,2),(271,2),(272,32),(277,1),(278,1),(287,32),(288,64),(291,4),(292,4),(295,3),(296,3),(304,4),(305,4),(314,11),(315,11)],by kernel_rfl,[(22,3,1,.int .i64 0,8),(23,69,2,.agg #[.string ByteArray.empty,.bool false],24),(24,71,2,.agg #[.int .i64 0,.slice none 0 0],32),(25,112,2,.agg #[.int .i64 0,.string ByteArray.empty],24),(28,121,2,.agg #[.string ByteArray.empty,.int .i64 0],24),(29,119,2,.agg #[.string ByteArray.empty,.int .i64 0],24),(30,83,4,.agg #[.int .i64 0,.string ByteArray.empty,.string ByteArray.empty,.string ByteArray.empty],56),(43,5,1,.int .u8 0,1),(60,9,1,.string ByteArray.empty,16),(89,60,1,.slice none 0 0,24),(90,135,4,.agg #[.string ByteArray.empty,.int .i64 0,.int .i64 0,.slice none 0 0],56),(91,144,4,.agg #[.string ByteArray.empty,.int .i64 0,.int .i64 0,.slice none 0 0],56),(92,183,4,.agg #[.string ByteArray.empty,.int .i64 0,.int .i64 0,.int .i64 0],40),(128,139,8,.agg #[.slice none 0 0,.slice none 0 0,.slice none 0 0,.slice none 0 0,.slice none 0 0,.slice none 0 0,.slice none 0 0,.int .i64 0],176),(133,142,2,.agg #[.string ByteArray.empty,.string ByteArray.empty],32),(172,94,7,.agg #[.slice none 0 0,.slice none 0 0,.slice none 0 0,.slice none 0 0,.slice none 0 0,.slice none 0 0,.slice none 0 0],168),(223,22,1,.slice none 0 0,24),(259,4,1,.bool false,1),(289,292,4,.agg #[.int .i32 0,.int .i64 0,.int .i64 0,.bool false],32),(294,296,3,.agg #[.int .i64 0,.bool false,.slice none 0 0],40),(298,190,1,.int .u64 0,8)],⟨bD,jF,yj,KJ,C0,iu,cZ,cN,bo,ry,lr,qI,iv,bB,wT,IY,Fv,sI,Fw,dy,J1,trivial⟩,[(27,.agg #[.slice none 0 0,.int .i64 0,.int .i64 0,.slice none 0 0,.slice none 0 0]),(32,.agg #[.slice none 0 0,.slice none 0 0,.slice none 0 0,.slice none 0 0]),(59,.agg #[.pointer none,.slice none 0 0]),(69,.agg #[.string ByteArray.empty,.bool false]),(71,.agg #[.int .i64 0,.slice none 0 0]),(83,.agg #[.int .i64 0,.string ByteArray.empty,.string ByteArray.empty,.string ByteArray.empty]),(94,.agg #[.slice none 0 0,.slice none 0 0,.slice none 0 0,.slice none 0 0,.slice none 0 0,.slice none 0 0,.slice none 0 0]),(102,.agg #[.int .u8 0,.int .u8 0,.int .u8 0,.int .u8 0]),(112,.agg #[.int .i64 0,.string ByteArray.empty]),(119,.agg #[.string ByteArray.empty,.int .i64 0]),(121,.agg #[.string ByteArray.empty,.int .i64 0]),(135,.agg #[.string ByteArray.empty,.int .i64 0,.int .i64 0,.slice none 0 0]),(139,.agg #[.slice none 0 0,.slice none 0 0,.slice none 0 0,.slice none 0 0,.slice none 0 0,.slice none 0 0,.slice none 0 0,.int .i64 0]),(142,.agg #[.string ByteArray.empty,.string ByteArray.empty]),(144,.agg #[.string ByteArray.empty,.int .i64 0,.int .i64 0,.slice none 0 0]),(156,.agg #[.int .u32 0,.int .u32 0,.int .u32 0,.int .u32 0,.int .u32 0,.int .u32 0,.int .u32 0,.int .u32 0,.int .u32 0,.int .u32 0,.int .u32 0,.int .u32 0,.int .u32 0,.int .u32 0,.int .u32 0,.int .u32 0]),(183,.agg #[.string ByteArray.empty,.int .i64 0,.int .i64 0,.int .i64 0]),(189,.agg #[.int .u8 0,.int .u8 0,.int .u8 0,.int .u8 0,.int .u8 0,.int .u8 0,.int .u8 0,.int .u8 0,.int .u8 0,.int .u8 0,.int .u8 0,.int .u8 0,.int .u8 0,.int .u8 0,.int .u8 0,.int .u8 0,.int .u8 0,.int .u8 0,.int .u8 0,.int .u8 0,.int .u8 0,.int .u8 0,.int .u8 0,.int .u8 0]),(254,.agg #[.slice none 0 0,.slice none 0 0]),(271,.agg #[.int .u8 0,.int .u8 0]),(292,.agg #[.int .i32 0,.int .i64 0,.int .i64 0,.bool false]),(296,.agg #[.int .i64 0,.bool false,.slice none 0 0])],⟨KK,KL,KM,KN,KQ,KR,de,HX,HY,HZ,I0,I1,I2,I3,I4,I5,I6,I7,I8,I9,Ia,u6,trivial⟩⟩
def mixed:prog.follows .mixedOrders=true:=by kernel_rfl
instance mxI:Mx prog:=⟨mixed⟩
