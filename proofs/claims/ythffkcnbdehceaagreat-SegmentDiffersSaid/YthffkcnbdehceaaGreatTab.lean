/-
 TABLES:closed facts on the types and functions of this seat (printed by our own program gtypes.py).
-/
import Derived.Test.YthffkcnbdehceaaGreatKm
import Derived.Test.YthffkcnbdehceaaGreatKy
import Derived.Test.YthffkcnbdehceaaGreatRows
set_option linter.unusedVariables false
set_option linter.unusedSimpArgs false
set_option linter.unusedSectionVars false
namespace Go.Proofs.YthffkcnbdehceaaGreat
open Go.RowKit Go.Kw
set_option maxRecDepth 100000
theorem fy:dw Tryz.prog 3=true:=by kernel_rfl
theorem cZ:(Tryz.prog.info? 3).map (·.size)=some 1:=by kernel_rfl
theorem LU:(Tryz.prog.info? 3).map (·.zero)=some (some (.int .i64 0)):=by kernel_rfl
theorem Jc:dw Tryz.prog 4=true:=by kernel_rfl
theorem Ko:(Tryz.prog.info? 4).map (·.size)=some 1:=by kernel_rfl
theorem LV:(Tryz.prog.info? 4).map (·.zero)=some (some (.bool false)):=by kernel_rfl
theorem LX:dw Tryz.prog 5=true:=by kernel_rfl
theorem N9:(Tryz.prog.info? 5).map (·.size)=some 1:=by kernel_rfl
theorem LY:dw Tryz.prog 9=true:=by kernel_rfl
theorem I3:(Tryz.prog.info? 9).map (·.size)=some 1:=by kernel_rfl
theorem fp:dw Tryz.prog 22=true:=by kernel_rfl
theorem jM:(Tryz.prog.info? 22).map (·.size)=some 1:=by kernel_rfl
theorem aZ:SlTy Tryz.prog 22 3 1 (.int .i64 0) 8:= .of Tryz.underlying22 (by kernel_rfl) rfl (by decide)
theorem CJ:SlTy Tryz.prog 23 86 2 (.agg #[.string ByteArray.empty,.bool false]) 24:= .of Tryz.underlying23 (by kernel_rfl) rfl (by decide)
theorem Jd:(Tryz.prog.info? 24).map (·.size)=some 1:=by kernel_rfl
theorem zF:SlTy Tryz.prog 24 28 1 (.slice none 0 0) 24:= .of Tryz.underlying24 (by kernel_rfl) rfl (by decide)
theorem Je:(Tryz.prog.info? 25).map (·.size)=some 1:=by kernel_rfl
theorem sB:SlTy Tryz.prog 25 71 4 (.agg #[.string ByteArray.empty,.int .i64 0,.int .i64 0,.slice none 0 0]) 56:= .of Tryz.underlying25 (by kernel_rfl) rfl (by decide)
theorem Jf:(Tryz.prog.info? 26).map (·.size)=some 1:=by kernel_rfl
theorem oa:SlTy Tryz.prog 26 75 4 (.agg #[.string ByteArray.empty,.int .i64 0,.int .i64 0,.slice none 0 0]) 56:= .of Tryz.underlying26 (by kernel_rfl) rfl (by decide)
theorem rJ:(Tryz.prog.info? 27).map (·.size)=some 1:=by kernel_rfl
theorem gR:SlTy Tryz.prog 27 84 4 (.agg #[.string ByteArray.empty,.int .i64 0,.int .i64 0,.int .i64 0]) 40:= .of Tryz.underlying27 (by kernel_rfl) rfl (by decide)
theorem eQ:dw Tryz.prog 28=true:=by kernel_rfl
theorem oR:(Tryz.prog.info? 28).map (·.size)=some 1:=by kernel_rfl
theorem cu:SlTy Tryz.prog 28 9 1 (.string ByteArray.empty) 16:= .of Tryz.underlying28 (by kernel_rfl) rfl (by decide)
theorem Kp:(Tryz.prog.info? 28).map (·.zero)=some (some (.slice none 0 0)):=by kernel_rfl
theorem AZ:jm Tryz.prog 30 5 5=true:=by kernel_rfl
theorem B5:jm Tryz.prog 30 6 6=true:=by kernel_rfl
theorem CK:BuildTy Tryz.prog 30 [(0,1),(1,1),(2,1),(3,1),(4,1),(5,1),(6,1)] [.slice none 0 0,.slice none 0 0,.slice none 0 0,.slice none 0 0,.slice none 0 0,.slice none 0 0,.slice none 0 0]:=⟨by kernel_rfl,_,Tryz.underlying30,λ _=>by kernel_rfl⟩
theorem gl:dE Tryz.prog 30 7=true:=by kernel_rfl
theorem Kq:(Tryz.prog.info? 30).map (·.zero)=some (some (.agg #[.slice none 0 0,.slice none 0 0,.slice none 0 0,.slice none 0 0,.slice none 0 0,.slice none 0 0,.slice none 0 0])):=by kernel_rfl
theorem zG:dw Tryz.prog 45=true:=by kernel_rfl
theorem cE:SlTy Tryz.prog 45 5 1 (.int .u8 0) 1:= .of Tryz.underlying45 (by kernel_rfl) rfl (by decide)
theorem Na:BuildTy Tryz.prog 58 [(0,1),(1,1)] [.slice none 0 0,.int .i64 0]:=⟨by kernel_rfl,_,Tryz.underlying58,λ _=>by kernel_rfl⟩
theorem Nb:BuildTy Tryz.prog 66 [(0,1)] [.slice none 0 0]:=⟨by kernel_rfl,_,Tryz.underlying66,λ _=>by kernel_rfl⟩
theorem FD:(Tryz.prog.info? 69).map (·.size)=some 1:=by kernel_rfl
theorem CL:SlTy Tryz.prog 69 120 2 (.agg #[.string ByteArray.empty,.string ByteArray.empty]) 32:= .of Tryz.underlying69 (by kernel_rfl) rfl (by decide)
theorem Kr:(Tryz.prog.info? 69).map (·.zero)=some (some (.slice none 0 0)):=by kernel_rfl
theorem B7:jm Tryz.prog 71 3 3=true:=by kernel_rfl
theorem I4:BuildTy Tryz.prog 71 [(0,1),(1,1),(2,1),(3,1)] [.string ByteArray.empty,.int .i64 0,.int .i64 0,.slice none 0 0]:=⟨by kernel_rfl,_,Tryz.underlying71,λ _=>by kernel_rfl⟩
theorem xO:dE Tryz.prog 71 4=true:=by kernel_rfl
theorem rK:(Tryz.prog.info? 71).map (·.zero)=some (some (.agg #[.string ByteArray.empty,.int .i64 0,.int .i64 0,.slice none 0 0])):=by kernel_rfl
theorem Ks:BuildTy Tryz.prog 75 [(0,1),(1,1),(2,1),(3,1)] [.string ByteArray.empty,.int .i64 0,.int .i64 0,.slice none 0 0]:=⟨by kernel_rfl,_,Tryz.underlying75,λ _=>by kernel_rfl⟩
theorem xP:dE Tryz.prog 75 4=true:=by kernel_rfl
theorem Kt:(Tryz.prog.info? 75).map (·.zero)=some (some (.agg #[.string ByteArray.empty,.int .i64 0,.int .i64 0,.slice none 0 0])):=by kernel_rfl
theorem uW:BuildTy Tryz.prog 84 [(0,1),(1,1),(2,1),(3,1)] [.string ByteArray.empty,.int .i64 0,.int .i64 0,.int .i64 0]:=⟨by kernel_rfl,_,Tryz.underlying84,λ _=>by kernel_rfl⟩
theorem xQ:dE Tryz.prog 84 4=true:=by kernel_rfl
theorem rL:(Tryz.prog.info? 84).map (·.zero)=some (some (.agg #[.string ByteArray.empty,.int .i64 0,.int .i64 0,.int .i64 0])):=by kernel_rfl
theorem FE:BuildTy Tryz.prog 86 [(0,1),(1,1)] [.string ByteArray.empty,.bool false]:=⟨by kernel_rfl,_,Tryz.underlying86,λ _=>by kernel_rfl⟩
theorem Ku:(Tryz.prog.info? 86).map (·.zero)=some (some (.agg #[.string ByteArray.empty,.bool false])):=by kernel_rfl
theorem LZ:(Tryz.prog.info? 87).map (·.size)=some 1:=by kernel_rfl
theorem Kv:SlTy Tryz.prog 87 111 2 (.agg #[.pointer none,.slice none 0 0]) 32:= .of Tryz.underlying87 (by kernel_rfl) rfl (by decide)
theorem I5:dw Tryz.prog 108=true:=by kernel_rfl
theorem FF:SlTy Tryz.prog 109 116 1 (.pointer none) 8:= .of Tryz.underlying109 (by kernel_rfl) rfl (by decide)
theorem M0:BuildTy Tryz.prog 111 [(0,1),(1,1)] [.pointer none,.slice none 0 0]:=⟨by kernel_rfl,_,Tryz.underlying111,λ _=>by kernel_rfl⟩
theorem Kx:dE Tryz.prog 111 2=true:=by kernel_rfl
theorem I6:(Tryz.prog.info? 111).map (·.zero)=some (some (.agg #[.pointer none,.slice none 0 0])):=by kernel_rfl
theorem B9:BuildTy Tryz.prog 120 [(0,1),(1,1)] [.string ByteArray.empty,.string ByteArray.empty]:=⟨by kernel_rfl,_,Tryz.underlying120,λ _=>by kernel_rfl⟩
theorem I7:(Tryz.prog.info? 120).map (·.zero)=some (some (.agg #[.string ByteArray.empty,.string ByteArray.empty])):=by kernel_rfl
theorem Jg:SlTy Tryz.prog 129 128 1 (.nilFunc) 8:= .of Tryz.underlying129 (by kernel_rfl) rfl (by decide)
theorem nq:dw Tryz.prog 132=true:=by kernel_rfl
theorem zH:(Tryz.prog.info? 132).map (·.size)=some 1:=by kernel_rfl
theorem Jh:SlTy Tryz.prog 139 22 1 (.slice none 0 0) 24:= .of Tryz.underlying139 (by kernel_rfl) rfl (by decide)
theorem Ky:ArrTy Tryz.prog 142 4 5 1:=⟨Tryz.underlying142,by kernel_rfl⟩
theorem Kz:BuildAr Tryz.prog 142 4 5 [.int .u8 0,.int .u8 0,.int .u8 0,.int .u8 0]:=⟨by kernel_rfl,Tryz.underlying142,by kernel_rfl⟩
theorem vd:dE Tryz.prog 142 4=true:=by kernel_rfl
theorem I8:(Tryz.prog.info? 142).map (·.zero)=some (some (.agg #[.int .u8 0,.int .u8 0,.int .u8 0,.int .u8 0])):=by kernel_rfl
theorem Ba:dw Tryz.prog 144=true:=by kernel_rfl
theorem KA:(Tryz.prog.info? 144).map (·.size)=some 1:=by kernel_rfl
theorem M3:BuildTy Tryz.prog 156 [(0,1),(1,1)] [.slice none 0 0,.bool false]:=⟨by kernel_rfl,_,Tryz.underlying156,λ _=>by kernel_rfl⟩
theorem rM:jm Tryz.prog 158 0 0=true:=by kernel_rfl
theorem gm:jm Tryz.prog 158 1 2=true:=by kernel_rfl
theorem FG:jm Tryz.prog 158 3 10=true:=by kernel_rfl
theorem M4:BuildTy Tryz.prog 158 [(0,2),(2,7),(9,1),(10,1)] [.slice none 0 0,.bool false,.slice none 0 0,.slice none 0 0,.slice none 0 0,.slice none 0 0,.slice none 0 0,.slice none 0 0,.slice none 0 0,.slice none 0 0,.int .i64 0]:=⟨by kernel_rfl,_,Tryz.underlying158,λ _=>by kernel_rfl⟩
theorem xR:jm Tryz.prog 166 1 1=true:=by kernel_rfl
theorem Ji:BuildTy Tryz.prog 166 [(0,1),(1,1),(2,1)] [.slice none 0 0,.slice none 0 0,.slice none 0 0]:=⟨by kernel_rfl,_,Tryz.underlying166,λ _=>by kernel_rfl⟩
theorem nr:dw Tryz.prog 171=true:=by kernel_rfl
theorem KC:(Tryz.prog.info? 171).map (·.size)=some 1:=by kernel_rfl
theorem FH:SlTy Tryz.prog 171 192 2 (.agg #[.int .i64 0,.int .i64 0]) 16:= .of Tryz.underlying171 (by kernel_rfl) rfl (by decide)
theorem M5:BuildTy Tryz.prog 173 [(0,1),(1,1),(2,1),(3,1)] [.int .i64 0,.int .i64 0,.slice none 0 0,.slice none 0 0]:=⟨by kernel_rfl,_,Tryz.underlying173,λ _=>by kernel_rfl⟩
theorem FI:SlTy Tryz.prog 183 4 1 (.bool false) 1:= .of Tryz.underlying183 (by kernel_rfl) rfl (by decide)
theorem M6:BuildTy Tryz.prog 192 [(0,1),(1,1)] [.int .i64 0,.int .i64 0]:=⟨by kernel_rfl,_,Tryz.underlying192,λ _=>by kernel_rfl⟩
theorem zI:ArrTy Tryz.prog 194 16 144 1:=⟨Tryz.underlying194,by kernel_rfl⟩
theorem I9:(Tryz.prog.info? 194).map (·.zero)=some (some (.agg #[.int .u32 0,.int .u32 0,.int .u32 0,.int .u32 0,.int .u32 0,.int .u32 0,.int .u32 0,.int .u32 0,.int .u32 0,.int .u32 0,.int .u32 0,.int .u32 0,.int .u32 0,.int .u32 0,.int .u32 0,.int .u32 0])):=by kernel_rfl
theorem Ia:(Tryz.prog.info? 199).map (·.zero)=some (some (.agg #[.slice none 0 0,.slice none 0 0])):=by kernel_rfl
theorem xS:jm Tryz.prog 240 1 1=true:=by kernel_rfl
theorem FJ:BuildTy Tryz.prog 240 [(0,1),(1,1),(2,1)] [.int .i32 0,.int .i64 0,.int .i64 0]:=⟨by kernel_rfl,_,Tryz.underlying240,λ _=>by kernel_rfl⟩
theorem oe:dE Tryz.prog 240 3=true:=by kernel_rfl
theorem ve:(Tryz.prog.info? 240).map (·.zero)=some (some (.agg #[.int .i32 0,.int .i64 0,.int .i64 0])):=by kernel_rfl
theorem Ib:dw Tryz.prog 243=true:=by kernel_rfl
theorem FK:SlTy Tryz.prog 243 248 2 (.agg #[.slice none 0 0,.int .i64 0]) 32:= .of Tryz.underlying243 (by kernel_rfl) rfl (by decide)
theorem Bb:BuildTy Tryz.prog 245 [(0,1),(1,1),(2,1),(3,1),(4,1),(5,1)] [.int .i64 0,.int .i64 0,.slice none 0 0,.slice none 0 0,.int .i64 0,.slice none 0 0]:=⟨by kernel_rfl,_,Tryz.underlying245,λ _=>by kernel_rfl⟩
theorem Ic:(Tryz.prog.info? 245).map (·.zero)=some (some (.agg #[.int .i64 0,.int .i64 0,.slice none 0 0,.slice none 0 0,.int .i64 0,.slice none 0 0])):=by kernel_rfl
theorem Jj:BuildTy Tryz.prog 248 [(0,1),(1,1)] [.slice none 0 0,.int .i64 0]:=⟨by kernel_rfl,_,Tryz.underlying248,λ _=>by kernel_rfl⟩
theorem Ie:(Tryz.prog.info? 248).map (·.zero)=some (some (.agg #[.slice none 0 0,.int .i64 0])):=by kernel_rfl
theorem M7:BuildTy Tryz.prog 254 [(0,1),(1,1)] [.slice none 0 0,.int .i64 0]:=⟨by kernel_rfl,_,Tryz.underlying254,λ _=>by kernel_rfl⟩
theorem M8:BuildTy Tryz.prog 256 [(0,2)] [.slice none 0 0,.int .i64 0]:=⟨by kernel_rfl,_,Tryz.underlying256,λ _=>by kernel_rfl⟩
theorem M9:BuildTy Tryz.prog 261 [(0,1),(1,1)] [.slice none 0 0,.bool false]:=⟨by kernel_rfl,_,Tryz.underlying261,λ _=>by kernel_rfl⟩
theorem Ig:(Tryz.prog.info? 261).map (·.zero)=some (some (.agg #[.slice none 0 0,.bool false])):=by kernel_rfl
theorem Ma:BuildTy Tryz.prog 264 [(0,1),(1,1)] [.slice none 0 0,.bool false]:=⟨by kernel_rfl,_,Tryz.underlying264,λ _=>by kernel_rfl⟩
theorem Ih:(Tryz.prog.info? 264).map (·.zero)=some (some (.agg #[.slice none 0 0,.bool false])):=by kernel_rfl
theorem Ii:(Tryz.prog.info? 267).map (·.zero)=some (some (.int .u64 0)):=by kernel_rfl
theorem Mb:BuildTy Tryz.prog 274 [(0,2),(2,1)] [.slice none 0 0,.int .i64 0,.int .i64 0]:=⟨by kernel_rfl,_,Tryz.underlying274,λ _=>by kernel_rfl⟩
theorem Ij:dw Tryz.prog 279=true:=by kernel_rfl
theorem KE:(Tryz.prog.info? 279).map (·.size)=some 1:=by kernel_rfl
theorem FL:SlTy Tryz.prog 279 240 3 (.agg #[.int .i32 0,.int .i64 0,.int .i64 0]) 24:= .of Tryz.underlying279 (by kernel_rfl) rfl (by decide)
theorem Ik:(Tryz.prog.info? 279).map (·.zero)=some (some (.slice none 0 0)):=by kernel_rfl
theorem gL:SlTy Tryz.prog 285 288 4 (.agg #[.int .i64 0,.int .i64 0,.int .i64 0,.int .i64 0]) 32:= .of Tryz.underlying285 (by kernel_rfl) rfl (by decide)
theorem Jk:BuildTy Tryz.prog 288 [(0,1),(1,1),(2,1),(3,1)] [.int .i64 0,.int .i64 0,.int .i64 0,.int .i64 0]:=⟨by kernel_rfl,_,Tryz.underlying288,λ _=>by kernel_rfl⟩
theorem jO:dE Tryz.prog 288 4=true:=by kernel_rfl
theorem Il:(Tryz.prog.info? 288).map (·.zero)=some (some (.agg #[.int .i64 0,.int .i64 0,.int .i64 0,.int .i64 0])):=by kernel_rfl
theorem FM:SlTy Tryz.prog 289 285 1 (.slice none 0 0) 24:= .of Tryz.underlying289 (by kernel_rfl) rfl (by decide)
theorem Jl:SlTy Tryz.prog 291 132 1 (.int .u64 0) 8:= .of Tryz.underlying291 (by kernel_rfl) rfl (by decide)
theorem FN:SlTy Tryz.prog 296 299 4 (.agg #[.int .i32 0,.int .i64 0,.int .i64 0,.bool false]) 32:= .of Tryz.underlying296 (by kernel_rfl) rfl (by decide)
theorem Jm:BuildTy Tryz.prog 299 [(0,1),(1,1),(2,1),(3,1)] [.int .i32 0,.int .i64 0,.int .i64 0,.bool false]:=⟨by kernel_rfl,_,Tryz.underlying299,λ _=>by kernel_rfl⟩
theorem Im:(Tryz.prog.info? 299).map (·.zero)=some (some (.agg #[.int .i32 0,.int .i64 0,.int .i64 0,.bool false])):=by kernel_rfl
theorem Mc:SlTy Tryz.prog 300 302 3 (.agg #[.int .i64 0,.bool false,.slice none 0 0]) 40:= .of Tryz.underlying300 (by kernel_rfl) rfl (by decide)
theorem Io:(Tryz.prog.info? 302).map (·.zero)=some (some (.agg #[.int .i64 0,.bool false,.slice none 0 0])):=by kernel_rfl
theorem zJ:ArrTy Tryz.prog 321 32 3 1:=⟨Tryz.underlying321,by kernel_rfl⟩
theorem Ip:(Tryz.prog.info? 321).map (·.zero)=some (some (.agg #[.int .i64 0,.int .i64 0,.int .i64 0,.int .i64 0,.int .i64 0,.int .i64 0,.int .i64 0,.int .i64 0,.int .i64 0,.int .i64 0,.int .i64 0,.int .i64 0,.int .i64 0,.int .i64 0,.int .i64 0,.int .i64 0,.int .i64 0,.int .i64 0,.int .i64 0,.int .i64 0,.int .i64 0,.int .i64 0,.int .i64 0,.int .i64 0,.int .i64 0,.int .i64 0,.int .i64 0,.int .i64 0,.int .i64 0,.int .i64 0,.int .i64 0,.int .i64 0])):=by kernel_rfl
theorem Md:BuildTy Tryz.prog 327 [(0,1),(1,1)] [.slice none 0 0,.bool false]:=⟨by kernel_rfl,_,Tryz.underlying327,λ _=>by kernel_rfl⟩
theorem Iq:(Tryz.prog.info? 327).map (·.zero)=some (some (.agg #[.slice none 0 0,.bool false])):=by kernel_rfl
theorem og:ArrTy Tryz.prog 337 16 132 1:=⟨Tryz.underlying337,by kernel_rfl⟩
theorem jP:ArrTy Tryz.prog 338 16 22 1:=⟨Tryz.underlying338,by kernel_rfl⟩
theorem xT:jm Tryz.prog 340 1 16=true:=by kernel_rfl
theorem Me:BuildTy Tryz.prog 340 [(0,16),(16,16),(32,1)] [.int .u64 0,.int .u64 0,.int .u64 0,.int .u64 0,.int .u64 0,.int .u64 0,.int .u64 0,.int .u64 0,.int .u64 0,.int .u64 0,.int .u64 0,.int .u64 0,.int .u64 0,.int .u64 0,.int .u64 0,.int .u64 0,.slice none 0 0,.slice none 0 0,.slice none 0 0,.slice none 0 0,.slice none 0 0,.slice none 0 0,.slice none 0 0,.slice none 0 0,.slice none 0 0,.slice none 0 0,.slice none 0 0,.slice none 0 0,.slice none 0 0,.slice none 0 0,.slice none 0 0,.slice none 0 0,.int .i64 0]:=⟨by kernel_rfl,_,Tryz.underlying340,λ _=>by kernel_rfl⟩
theorem tO:Enters Tryz.prog 25:= .of Tryz.func25 rfl (by kernel_rfl)
theorem Mf:Enters Tryz.prog 70:= .of Tryz.func70 rfl (by kernel_rfl)
theorem Mg:Enters Tryz.prog 71:= .of Tryz.func71 rfl (by kernel_rfl)
theorem Mh:Enters Tryz.prog 72:= .of Tryz.func72 rfl (by kernel_rfl)
theorem Mi:Enters Tryz.prog 73:= .of Tryz.func73 rfl (by kernel_rfl)
theorem Mj:Enters Tryz.prog 74:= .of Tryz.func74 rfl (by kernel_rfl)
theorem Ml:Enters Tryz.prog 75:= .of Tryz.func75 rfl (by kernel_rfl)
theorem Mm:Enters Tryz.prog 83:= .of Tryz.func83 rfl (by kernel_rfl)
theorem Mn:Enters Tryz.prog 84:= .of Tryz.func84 rfl (by kernel_rfl)
theorem Mo:Enters Tryz.prog 98:= .of Tryz.func98 rfl (by kernel_rfl)
theorem Mp:Enters Tryz.prog 99:= .of Tryz.func99 rfl (by kernel_rfl)
theorem KF:Enters Tryz.prog 100:= .of Tryz.func100 rfl (by kernel_rfl)
theorem KG:Enters Tryz.prog 101:= .of Tryz.func101 rfl (by kernel_rfl)
theorem KH:Enters Tryz.prog 102:= .of Tryz.func102 rfl (by kernel_rfl)
theorem KI:Enters Tryz.prog 109:= .of Tryz.func109 rfl (by kernel_rfl)
theorem KJ:Enters Tryz.prog 122:= .of Tryz.func122 rfl (by kernel_rfl)
theorem zK:Enters Tryz.prog 150:= .of Tryz.func150 rfl (by kernel_rfl)
theorem vf:Enters Tryz.prog 151:= .of Tryz.func151 rfl (by kernel_rfl)
theorem KK:Enters Tryz.prog 182:= .of Tryz.func182 rfl (by kernel_rfl)
theorem KL:Enters Tryz.prog 185:= .of Tryz.func185 rfl (by kernel_rfl)
theorem KN:Enters Tryz.prog 213:= .of Tryz.func213 rfl (by kernel_rfl)
theorem FO:Enters Tryz.prog 222:= .of Tryz.func222 rfl (by kernel_rfl)
theorem KO:Enters Tryz.prog 234:= .of Tryz.func234 rfl (by kernel_rfl)
theorem KQ:Enters Tryz.prog 261:= .of Tryz.func261 rfl (by kernel_rfl)
theorem KR:Enters Tryz.prog 263:= .of Tryz.func263 rfl (by kernel_rfl)
theorem KS:Enters Tryz.prog 278:= .of Tryz.func278 rfl (by kernel_rfl)
instance en9:Ent Tryz.prog 9:=Ent.mk' Tryz.func9
instance en10:Ent Tryz.prog 10:=Ent.mk' Tryz.func10
instance en11:Ent Tryz.prog 11:=Ent.mk' Tryz.func11
instance en13:Ent Tryz.prog 13:=Ent.mk' Tryz.func13
instance en14:Ent Tryz.prog 14:=Ent.mk' Tryz.func14
instance en16:Ent Tryz.prog 16:=Ent.mk' Tryz.func16
instance en17:Ent Tryz.prog 17:=Ent.mk' Tryz.func17
instance en24:Ent Tryz.prog 24:=Ent.mk' Tryz.func24
instance en25:Ent Tryz.prog 25:=Ent.mk' Tryz.func25
instance en26:Ent Tryz.prog 26:=Ent.mk' Tryz.func26
instance en27:Ent Tryz.prog 27:=Ent.mk' Tryz.func27
instance en28:Ent Tryz.prog 28:=Ent.mk' Tryz.func28
instance en29:Ent Tryz.prog 29:=Ent.mk' Tryz.func29
instance en30:Ent Tryz.prog 30:=Ent.mk' Tryz.func30
instance en31:Ent Tryz.prog 31:=Ent.mk' Tryz.func31
instance en32:Ent Tryz.prog 32:=Ent.mk' Tryz.func32
instance en33:Ent Tryz.prog 33:=Ent.mk' Tryz.func33
instance en34:Ent Tryz.prog 34:=Ent.mk' Tryz.func34
instance en41:Ent Tryz.prog 41:=Ent.mk' Tryz.func41
instance en47:Ent Tryz.prog 47:=Ent.mk' Tryz.func47
instance en48:Ent Tryz.prog 48:=Ent.mk' Tryz.func48
instance en54:Ent Tryz.prog 54:=Ent.mk' Tryz.func54
instance en55:Ent Tryz.prog 55:=Ent.mk' Tryz.func55
instance en56:Ent Tryz.prog 56:=Ent.mk' Tryz.func56
instance en57:Ent Tryz.prog 57:=Ent.mk' Tryz.func57
instance en59:Ent Tryz.prog 59:=Ent.mk' Tryz.func59
instance en60:Ent Tryz.prog 60:=Ent.mk' Tryz.func60
instance en61:Ent Tryz.prog 61:=Ent.mk' Tryz.func61
instance en62:Ent Tryz.prog 62:=Ent.mk' Tryz.func62
instance en63:Ent Tryz.prog 63:=Ent.mk' Tryz.func63
instance en64:Ent Tryz.prog 64:=Ent.mk' Tryz.func64
instance en65:Ent Tryz.prog 65:=Ent.mk' Tryz.func65
instance en66:Ent Tryz.prog 66:=Ent.mk' Tryz.func66
instance en67:Ent Tryz.prog 67:=Ent.mk' Tryz.func67
instance en68:Ent Tryz.prog 68:=Ent.mk' Tryz.func68
instance en69:Ent Tryz.prog 69:=Ent.mk' Tryz.func69
instance en76:Ent Tryz.prog 76:=Ent.mk' Tryz.func76
instance en77:Ent Tryz.prog 77:=Ent.mk' Tryz.func77
instance en78:Ent Tryz.prog 78:=Ent.mk' Tryz.func78
instance en79:Ent Tryz.prog 79:=Ent.mk' Tryz.func79
instance en80:Ent Tryz.prog 80:=Ent.mk' Tryz.func80
instance en81:Ent Tryz.prog 81:=Ent.mk' Tryz.func81
instance en82:Ent Tryz.prog 82:=Ent.mk' Tryz.func82
instance en83:Ent Tryz.prog 83:=Ent.mk' Tryz.func83
instance en84:Ent Tryz.prog 84:=Ent.mk' Tryz.func84
instance en85:Ent Tryz.prog 85:=Ent.mk' Tryz.func85
instance en86:Ent Tryz.prog 86:=Ent.mk' Tryz.func86
instance en87:Ent Tryz.prog 87:=Ent.mk' Tryz.func87
instance en88:Ent Tryz.prog 88:=Ent.mk' Tryz.func88
instance en89:Ent Tryz.prog 89:=Ent.mk' Tryz.func89
instance en90:Ent Tryz.prog 90:=Ent.mk' Tryz.func90
instance en96:Ent Tryz.prog 96:=Ent.mk' Tryz.func96
instance en97:Ent Tryz.prog 97:=Ent.mk' Tryz.func97
instance en108:Ent Tryz.prog 108:=Ent.mk' Tryz.func108
instance en111:Ent Tryz.prog 111:=Ent.mk' Tryz.func111
instance en112:Ent Tryz.prog 112:=Ent.mk' Tryz.func112
instance en113:Ent Tryz.prog 113:=Ent.mk' Tryz.func113
instance en114:Ent Tryz.prog 114:=Ent.mk' Tryz.func114
instance en115:Ent Tryz.prog 115:=Ent.mk' Tryz.func115
instance en116:Ent Tryz.prog 116:=Ent.mk' Tryz.func116
instance en117:Ent Tryz.prog 117:=Ent.mk' Tryz.func117
instance en118:Ent Tryz.prog 118:=Ent.mk' Tryz.func118
instance en119:Ent Tryz.prog 119:=Ent.mk' Tryz.func119
instance en120:Ent Tryz.prog 120:=Ent.mk' Tryz.func120
instance en121:Ent Tryz.prog 121:=Ent.mk' Tryz.func121
instance en122:Ent Tryz.prog 122:=Ent.mk' Tryz.func122
instance en123:Ent Tryz.prog 123:=Ent.mk' Tryz.func123
instance en124:Ent Tryz.prog 124:=Ent.mk' Tryz.func124
instance en125:Ent Tryz.prog 125:=Ent.mk' Tryz.func125
instance en126:Ent Tryz.prog 126:=Ent.mk' Tryz.func126
instance en127:Ent Tryz.prog 127:=Ent.mk' Tryz.func127
instance en128:Ent Tryz.prog 128:=Ent.mk' Tryz.func128
instance en129:Ent Tryz.prog 129:=Ent.mk' Tryz.func129
instance en130:Ent Tryz.prog 130:=Ent.mk' Tryz.func130
instance en131:Ent Tryz.prog 131:=Ent.mk' Tryz.func131
instance en132:Ent Tryz.prog 132:=Ent.mk' Tryz.func132
instance en133:Ent Tryz.prog 133:=Ent.mk' Tryz.func133
instance en134:Ent Tryz.prog 134:=Ent.mk' Tryz.func134
instance en135:Ent Tryz.prog 135:=Ent.mk' Tryz.func135
instance en136:Ent Tryz.prog 136:=Ent.mk' Tryz.func136
instance en137:Ent Tryz.prog 137:=Ent.mk' Tryz.func137
instance en138:Ent Tryz.prog 138:=Ent.mk' Tryz.func138
instance en139:Ent Tryz.prog 139:=Ent.mk' Tryz.func139
instance en140:Ent Tryz.prog 140:=Ent.mk' Tryz.func140
instance en150:Ent Tryz.prog 150:=Ent.mk' Tryz.func150
instance en151:Ent Tryz.prog 151:=Ent.mk' Tryz.func151
instance en152:Ent Tryz.prog 152:=Ent.mk' Tryz.func152
instance en153:Ent Tryz.prog 153:=Ent.mk' Tryz.func153
instance en154:Ent Tryz.prog 154:=Ent.mk' Tryz.func154
instance en155:Ent Tryz.prog 155:=Ent.mk' Tryz.func155
instance en156:Ent Tryz.prog 156:=Ent.mk' Tryz.func156
instance en157:Ent Tryz.prog 157:=Ent.mk' Tryz.func157
instance en168:Ent Tryz.prog 168:=Ent.mk' Tryz.func168
instance en169:Ent Tryz.prog 169:=Ent.mk' Tryz.func169
instance en171:Ent Tryz.prog 171:=Ent.mk' Tryz.func171
instance en172:Ent Tryz.prog 172:=Ent.mk' Tryz.func172
instance en173:Ent Tryz.prog 173:=Ent.mk' Tryz.func173
instance en174:Ent Tryz.prog 174:=Ent.mk' Tryz.func174
instance en175:Ent Tryz.prog 175:=Ent.mk' Tryz.func175
instance en176:Ent Tryz.prog 176:=Ent.mk' Tryz.func176
instance en177:Ent Tryz.prog 177:=Ent.mk' Tryz.func177
instance en178:Ent Tryz.prog 178:=Ent.mk' Tryz.func178
instance en179:Ent Tryz.prog 179:=Ent.mk' Tryz.func179
instance en180:Ent Tryz.prog 180:=Ent.mk' Tryz.func180
instance en181:Ent Tryz.prog 181:=Ent.mk' Tryz.func181
instance en183:Ent Tryz.prog 183:=Ent.mk' Tryz.func183
instance en184:Ent Tryz.prog 184:=Ent.mk' Tryz.func184
instance en186:Ent Tryz.prog 186:=Ent.mk' Tryz.func186
instance en187:Ent Tryz.prog 187:=Ent.mk' Tryz.func187
instance en188:Ent Tryz.prog 188:=Ent.mk' Tryz.func188
instance en189:Ent Tryz.prog 189:=Ent.mk' Tryz.func189
instance en190:Ent Tryz.prog 190:=Ent.mk' Tryz.func190
instance en191:Ent Tryz.prog 191:=Ent.mk' Tryz.func191
instance en192:Ent Tryz.prog 192:=Ent.mk' Tryz.func192
instance en193:Ent Tryz.prog 193:=Ent.mk' Tryz.func193
instance en194:Ent Tryz.prog 194:=Ent.mk' Tryz.func194
instance en195:Ent Tryz.prog 195:=Ent.mk' Tryz.func195
instance en196:Ent Tryz.prog 196:=Ent.mk' Tryz.func196
instance en197:Ent Tryz.prog 197:=Ent.mk' Tryz.func197
instance en206:Ent Tryz.prog 206:=Ent.mk' Tryz.func206
instance en207:Ent Tryz.prog 207:=Ent.mk' Tryz.func207
instance en208:Ent Tryz.prog 208:=Ent.mk' Tryz.func208
instance en209:Ent Tryz.prog 209:=Ent.mk' Tryz.func209
instance en210:Ent Tryz.prog 210:=Ent.mk' Tryz.func210
instance en211:Ent Tryz.prog 211:=Ent.mk' Tryz.func211
instance en212:Ent Tryz.prog 212:=Ent.mk' Tryz.func212
instance en220:Ent Tryz.prog 220:=Ent.mk' Tryz.func220
instance en221:Ent Tryz.prog 221:=Ent.mk' Tryz.func221
instance en223:Ent Tryz.prog 223:=Ent.mk' Tryz.func223
instance en226:Ent Tryz.prog 226:=Ent.mk' Tryz.func226
instance en227:Ent Tryz.prog 227:=Ent.mk' Tryz.func227
instance en228:Ent Tryz.prog 228:=Ent.mk' Tryz.func228
instance en229:Ent Tryz.prog 229:=Ent.mk' Tryz.func229
instance en230:Ent Tryz.prog 230:=Ent.mk' Tryz.func230
instance en231:Ent Tryz.prog 231:=Ent.mk' Tryz.func231
instance en232:Ent Tryz.prog 232:=Ent.mk' Tryz.func232
instance en233:Ent Tryz.prog 233:=Ent.mk' Tryz.func233
instance en234:Ent Tryz.prog 234:=Ent.mk' Tryz.func234
instance en235:Ent Tryz.prog 235:=Ent.mk' Tryz.func235
instance en236:Ent Tryz.prog 236:=Ent.mk' Tryz.func236
instance en242:Ent Tryz.prog 242:=Ent.mk' Tryz.func242
instance en243:Ent Tryz.prog 243:=Ent.mk' Tryz.func243
instance en244:Ent Tryz.prog 244:=Ent.mk' Tryz.func244
instance en245:Ent Tryz.prog 245:=Ent.mk' Tryz.func245
instance en246:Ent Tryz.prog 246:=Ent.mk' Tryz.func246
instance en248:Ent Tryz.prog 248:=Ent.mk' Tryz.func248
instance en249:Ent Tryz.prog 249:=Ent.mk' Tryz.func249
instance en250:Ent Tryz.prog 250:=Ent.mk' Tryz.func250
instance en259:Ent Tryz.prog 259:=Ent.mk' Tryz.func259
instance en260:Ent Tryz.prog 260:=Ent.mk' Tryz.func260
instance en262:Ent Tryz.prog 262:=Ent.mk' Tryz.func262
instance en264:Ent Tryz.prog 264:=Ent.mk' Tryz.func264
instance en267:Ent Tryz.prog 267:=Ent.mk' Tryz.func267
instance en268:Ent Tryz.prog 268:=Ent.mk' Tryz.func268
instance en269:Ent Tryz.prog 269:=Ent.mk' Tryz.func269
instance en270:Ent Tryz.prog 270:=Ent.mk' Tryz.func270
instance en271:Ent Tryz.prog 271:=Ent.mk' Tryz.func271
instance en275:Ent Tryz.prog 275:=Ent.mk' Tryz.func275
instance en276:Ent Tryz.prog 276:=Ent.mk' Tryz.func276
instance en277:Ent Tryz.prog 277:=Ent.mk' Tryz.func277
instance en279:Ent Tryz.prog 279:=Ent.mk' Tryz.func279
instance en280:Ent Tryz.prog 280:=Ent.mk' Tryz.func280
instance en282:Ent Tryz.prog 282:=Ent.mk' Tryz.func282
instance en283:Ent Tryz.prog 283:=Ent.mk' Tryz.func283
instance en284:Ent Tryz.prog 284:=Ent.mk' Tryz.func284
instance en285:Ent Tryz.prog 285:=Ent.mk' Tryz.func285
instance en286:Ent Tryz.prog 286:=Ent.mk' Tryz.func286
instance en287:Ent Tryz.prog 287:=Ent.mk' Tryz.func287
instance en288:Ent Tryz.prog 288:=Ent.mk' Tryz.func288
instance en289:Ent Tryz.prog 289:=Ent.mk' Tryz.func289
instance tbI:Tb Tryz.prog:=⟨[(7,[0,1,2,3]),(8,[0,1,2,3]),(13,[0,1]),(14,[0,1]),(18,[0]),(19,[0]),(29,[0,1,2,3,4,5,6]),(30,[0,1,2,3,4,5,6]),(57,[0,1]),(58,[0,1]),(65,[0]),(66,[0]),(70,[0,1,2,3]),(71,[0,1,2,3]),(74,[0,1,2,3]),(75,[0,1,2,3]),(83,[0,1,2,3]),(84,[0,1,2,3]),(85,[0,1]),(86,[0,1]),(91,[0,1]),(92,[0,1]),(101,[0,7]),(102,[0,7]),(110,[0,1]),(111,[0,1]),(119,[0,1]),(120,[0,1]),(155,[0,1]),(156,[0,1]),(157,[0,2,9,10]),(158,[0,2,9,10]),(163,[0,1,2,3]),(164,[0,1,2,3]),(165,[0,1,2]),(166,[0,1,2]),(172,[0,1,2,3]),(173,[0,1,2,3]),(191,[0,1]),(192,[0,1]),(198,[0,1]),(199,[0,1]),(205,[0,1,2]),(206,[0,1,2]),(239,[0,1,2]),(240,[0,1,2]),(244,[0,1,2,3,4,5]),(245,[0,1,2,3,4,5]),(247,[0,1]),(248,[0,1]),(253,[0,1]),(254,[0,1]),(255,[0]),(256,[0]),(260,[0,1]),(261,[0,1]),(263,[0,1]),(264,[0,1]),(273,[0,2]),(274,[0,2]),(287,[0,1,2,3]),(288,[0,1,2,3]),(298,[0,1,2,3]),(299,[0,1,2,3]),(301,[0,1,2]),(302,[0,1,2]),(326,[0,1]),(327,[0,1]),(339,[0,16,32]),(340,[0,16,32]),(346,[0,1,2,3]),(347,[0,1,2,3]),(357,[0,1,2,3,4,5,6,7,8,9,10]),(358,[0,1,2,3,4,5,6,7,8,9,10])],by kernel_rfl,[(2,.i64),(3,.i64),(5,.u8),(6,.u8),(12,.u64),(21,.i32),(34,.i64),(132,.u64),(144,.u32),(151,.u64),(216,.i64),(267,.u64),(351,.u8),(352,.u8),(355,.i32),(356,.i32)],by kernel_rfl,[1,2,3,4,5,6,9,10,11,12,15,16,17,20,21,22,23,24,25,26,27,28,31,32,33,34,36,37,38,40,41,42,43,44,45,46,48,49,50,51,53,54,55,56,59,60,61,63,64,67,68,69,72,73,76,77,78,79,80,81,82,87,89,90,93,95,97,98,99,100,103,104,105,106,107,108,109,112,113,115,116,117,118,121,122,123,124,125,127,128,129,131,132,134,135,136,138,139,141,143,144,145,146,147,148,149,150,151,153,154,159,161,162,167,168,169,170,171,174,175,176,177,178,179,180,181,182,183,184,185,186,187,188,189,190,193,195,196,197,201,202,204,207,208,209,211,212,213,214,215,216,218,219,220,221,222,223,224,225,227,228,230,231,232,233,235,236,237,238,241,242,243,246,250,252,257,258,259,262,265,266,267,268,269,270,271,272,275,277,278,279,280,281,282,283,284,285,286,289,290,291,292,293,294,295,296,297,300,303,305,306,307,308,309,310,311,313,314,315,316,317,318,319,320,322,323,324,325,328,329,330,331,332,333,334,335,336,341,342,343,344,345,351,352,353,354,355,356,359],by kernel_rfl,by kernel_rfl,[(7,4),(8,4),(13,2),(14,2),(18,1),(19,1),(29,7),(30,7),(57,2),(58,2),(65,1),(66,1),(70,4),(71,4),(74,4),(75,4),(83,4),(84,4),(85,2),(86,2),(91,2),(92,2),(101,8),(102,8),(110,2),(111,2),(119,2),(120,2),(142,4),(155,2),(156,2),(157,11),(158,11),(163,4),(164,4),(165,3),(166,3),(172,4),(173,4),(191,2),(192,2),(194,16),(198,2),(199,2),(205,3),(206,3),(239,3),(240,3),(244,6),(245,6),(247,2),(248,2),(253,2),(254,2),(255,2),(256,2),(260,2),(261,2),(263,2),(264,2),(273,3),(274,3),(287,4),(288,4),(298,4),(299,4),(301,3),(302,3),(321,32),(326,2),(327,2),(337,16),(338,16),(339,33),(340,33),(346,4),(347,4),(357,11),(358,11)],by kernel_rfl,[(22,3,1,.int .i64 0,8),(23,86,2,.agg #[.string ByteArray.empty,.bool false],24),(24,28,1,.slice none 0 0,24),(25,71,4,.agg #[.string ByteArray.empty,.int .i64 0,.int .i64 0,.slice none 0 0],56),(26,75,4,.agg #[.string ByteArray.empty,.int .i64 0,.int .i64 0,.slice none 0 0],56),(27,84,4,.agg #[.string ByteArray.empty,.int .i64 0,.int .i64 0,.int .i64 0],40),(28,9,1,.string ByteArray.empty,16),(45,5,1,.int .u8 0,1),(69,120,2,.agg #[.string ByteArray.empty,.string ByteArray.empty],32),(87,111,2,.agg #[.pointer none,.slice none 0 0],32),(109,116,1,.pointer none,8),(129,128,1,.nilFunc,8),(139,22,1,.slice none 0 0,24),(171,192,2,.agg #[.int .i64 0,.int .i64 0],16),(183,4,1,.bool false,1),(243,248,2,.agg #[.slice none 0 0,.int .i64 0],32),(279,240,3,.agg #[.int .i32 0,.int .i64 0,.int .i64 0],24),(285,288,4,.agg #[.int .i64 0,.int .i64 0,.int .i64 0,.int .i64 0],32),(289,285,1,.slice none 0 0,24),(291,132,1,.int .u64 0,8),(296,299,4,.agg #[.int .i32 0,.int .i64 0,.int .i64 0,.bool false],32),(300,302,3,.agg #[.int .i64 0,.bool false,.slice none 0 0],40)],⟨aZ,CJ,zF,sB,oa,gR,cu,cE,CL,Kv,FF,Jg,Jh,FH,FI,FK,FL,gL,FM,Jl,FN,Mc,trivial⟩,[(3,.int .i64 0),(4,.bool false),(28,.slice none 0 0),(30,.agg #[.slice none 0 0,.slice none 0 0,.slice none 0 0,.slice none 0 0,.slice none 0 0,.slice none 0 0,.slice none 0 0]),(69,.slice none 0 0),(71,.agg #[.string ByteArray.empty,.int .i64 0,.int .i64 0,.slice none 0 0]),(75,.agg #[.string ByteArray.empty,.int .i64 0,.int .i64 0,.slice none 0 0]),(84,.agg #[.string ByteArray.empty,.int .i64 0,.int .i64 0,.int .i64 0]),(86,.agg #[.string ByteArray.empty,.bool false]),(111,.agg #[.pointer none,.slice none 0 0]),(120,.agg #[.string ByteArray.empty,.string ByteArray.empty]),(142,.agg #[.int .u8 0,.int .u8 0,.int .u8 0,.int .u8 0]),(194,.agg #[.int .u32 0,.int .u32 0,.int .u32 0,.int .u32 0,.int .u32 0,.int .u32 0,.int .u32 0,.int .u32 0,.int .u32 0,.int .u32 0,.int .u32 0,.int .u32 0,.int .u32 0,.int .u32 0,.int .u32 0,.int .u32 0]),(199,.agg #[.slice none 0 0,.slice none 0 0]),(240,.agg #[.int .i32 0,.int .i64 0,.int .i64 0]),(245,.agg #[.int .i64 0,.int .i64 0,.slice none 0 0,.slice none 0 0,.int .i64 0,.slice none 0 0]),(248,.agg #[.slice none 0 0,.int .i64 0]),(261,.agg #[.slice none 0 0,.bool false]),(264,.agg #[.slice none 0 0,.bool false]),(267,.int .u64 0),(279,.slice none 0 0),(288,.agg #[.int .i64 0,.int .i64 0,.int .i64 0,.int .i64 0]),(299,.agg #[.int .i32 0,.int .i64 0,.int .i64 0,.bool false]),(302,.agg #[.int .i64 0,.bool false,.slice none 0 0]),(321,.agg #[.int .i64 0,.int .i64 0,.int .i64 0,.int .i64 0,.int .i64 0,.int .i64 0,.int .i64 0,.int .i64 0,.int .i64 0,.int .i64 0,.int .i64 0,.int .i64 0,.int .i64 0,.int .i64 0,.int .i64 0,.int .i64 0,.int .i64 0,.int .i64 0,.int .i64 0,.int .i64 0,.int .i64 0,.int .i64 0,.int .i64 0,.int .i64 0,.int .i64 0,.int .i64 0,.int .i64 0,.int .i64 0,.int .i64 0,.int .i64 0,.int .i64 0,.int .i64 0]),(327,.agg #[.slice none 0 0,.bool false])],⟨LU,LV,Kp,Kq,Kr,rK,Kt,rL,Ku,I6,I7,I8,I9,Ia,ve,Ic,Ie,Ig,Ih,Ii,Ik,Il,Im,Io,Ip,Iq,trivial⟩⟩
theorem mixed:Tryz.prog.follows .mixedOrders=true:=by kernel_rfl
instance mxI:Mx Tryz.prog:=⟨mixed⟩
end Go.Proofs.YthffkcnbdehceaaGreat
