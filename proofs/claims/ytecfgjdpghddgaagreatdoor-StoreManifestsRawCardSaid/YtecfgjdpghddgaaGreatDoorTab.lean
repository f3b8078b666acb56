/-
  TABLES: closed facts on the types and functions of this seat (printed by our own program gtypes.py).
-/
import Derived.Test.YtecfgjdpghddgaaGreatDoorKp
import Derived.Test.YtecfgjdpghddgaaGreatDoorRows
set_option linter.unusedVariables false
set_option linter.unusedSimpArgs false
set_option linter.unusedSectionVars false
namespace Go.Proofs.YtecfgjdpghddgaaGreatDoor
open Go.RowKit Go.Kw
set_option maxRecDepth 100000
theorem scal3 : scalB Tryz.prog 3 = true := by kernel_rfl
theorem one3 : (Tryz.prog.info? 3).map (·.size) = some 1 := by kernel_rfl
theorem scal4 : scalB Tryz.prog 4 = true := by kernel_rfl
theorem scal5 : scalB Tryz.prog 5 = true := by kernel_rfl
theorem scal9 : scalB Tryz.prog 9 = true := by kernel_rfl
theorem scal22 : scalB Tryz.prog 22 = true := by kernel_rfl
theorem sl22 : SlTy Tryz.prog 22 3 1 (.int .i64 0) 8 := .of Tryz.underlying22 (by kernel_rfl) rfl (by decide)
theorem scal23 : scalB Tryz.prog 23 = true := by kernel_rfl
theorem one23 : (Tryz.prog.info? 23).map (·.size) = some 1 := by kernel_rfl
theorem sl23 : SlTy Tryz.prog 23 70 2 (.agg #[.string ByteArray.empty, .bool false]) 24 := .of Tryz.underlying23 (by kernel_rfl) rfl (by decide)
theorem scal24 : scalB Tryz.prog 24 = true := by kernel_rfl
theorem one24 : (Tryz.prog.info? 24).map (·.size) = some 1 := by kernel_rfl
theorem sl24 : SlTy Tryz.prog 24 72 2 (.agg #[.int .i64 0, .slice none 0 0]) 32 := .of Tryz.underlying24 (by kernel_rfl) rfl (by decide)
theorem scal25 : scalB Tryz.prog 25 = true := by kernel_rfl
theorem fld27_0 : fldB Tryz.prog 27 0 0 = true := by kernel_rfl
theorem fld27_1 : fldB Tryz.prog 27 1 1 = true := by kernel_rfl
theorem fld27_2 : fldB Tryz.prog 27 2 2 = true := by kernel_rfl
theorem fld27_3 : fldB Tryz.prog 27 3 3 = true := by kernel_rfl
theorem fld27_4 : fldB Tryz.prog 27 4 4 = true := by kernel_rfl
theorem bt27 : BuildTy Tryz.prog 27 [(0, 1), (1, 1), (2, 1), (3, 1), (4, 1)] [.slice none 0 0, .int .i64 0, .int .i64 0, .slice none 0 0, .slice none 0 0] := ⟨by kernel_rfl, _, Tryz.underlying27, fun _ => by kernel_rfl⟩
theorem agg27 : aggB Tryz.prog 27 5 = true := by kernel_rfl
theorem zero27 : (Tryz.prog.info? 27).map (·.zero) = some (some (.agg #[.slice none 0 0, .int .i64 0, .int .i64 0, .slice none 0 0, .slice none 0 0])) := by kernel_rfl
theorem scal29 : scalB Tryz.prog 29 = true := by kernel_rfl
theorem sl30 : SlTy Tryz.prog 30 84 4 (.agg #[.int .i64 0, .string ByteArray.empty, .string ByteArray.empty, .string ByteArray.empty]) 56 := .of Tryz.underlying30 (by kernel_rfl) rfl (by decide)
theorem fld32_1 : fldB Tryz.prog 32 1 1 = true := by kernel_rfl
theorem bt32 : BuildTy Tryz.prog 32 [(0, 1), (1, 1), (2, 1), (3, 1)] [.slice none 0 0, .slice none 0 0, .slice none 0 0, .slice none 0 0] := ⟨by kernel_rfl, _, Tryz.underlying32, fun _ => by kernel_rfl⟩
theorem agg32 : aggB Tryz.prog 32 4 = true := by kernel_rfl
theorem scal43 : scalB Tryz.prog 43 = true := by kernel_rfl
theorem one43 : (Tryz.prog.info? 43).map (·.size) = some 1 := by kernel_rfl
theorem sl43 : SlTy Tryz.prog 43 5 1 (.int .u8 0) 1 := .of Tryz.underlying43 (by kernel_rfl) rfl (by decide)
theorem scal58 : scalB Tryz.prog 58 = true := by kernel_rfl
theorem one58 : (Tryz.prog.info? 58).map (·.size) = some 1 := by kernel_rfl
theorem fld60_0 : fldB Tryz.prog 60 0 0 = true := by kernel_rfl
theorem fld60_1 : fldB Tryz.prog 60 1 1 = true := by kernel_rfl
theorem zero60 : (Tryz.prog.info? 60).map (·.zero) = some (some (.agg #[.pointer none, .slice none 0 0])) := by kernel_rfl
theorem scal61 : scalB Tryz.prog 61 = true := by kernel_rfl
theorem sl61 : SlTy Tryz.prog 61 9 1 (.string ByteArray.empty) 16 := .of Tryz.underlying61 (by kernel_rfl) rfl (by decide)
theorem fld70_0 : fldB Tryz.prog 70 0 0 = true := by kernel_rfl
theorem fld70_1 : fldB Tryz.prog 70 1 1 = true := by kernel_rfl
theorem bt70 : BuildTy Tryz.prog 70 [(0, 1), (1, 1)] [.string ByteArray.empty, .bool false] := ⟨by kernel_rfl, _, Tryz.underlying70, fun _ => by kernel_rfl⟩
theorem agg70 : aggB Tryz.prog 70 2 = true := by kernel_rfl
theorem zero70 : (Tryz.prog.info? 70).map (·.zero) = some (some (.agg #[.string ByteArray.empty, .bool false])) := by kernel_rfl
theorem fld72_0 : fldB Tryz.prog 72 0 0 = true := by kernel_rfl
theorem fld72_1 : fldB Tryz.prog 72 1 1 = true := by kernel_rfl
theorem bt72 : BuildTy Tryz.prog 72 [(0, 1), (1, 1)] [.int .i64 0, .slice none 0 0] := ⟨by kernel_rfl, _, Tryz.underlying72, fun _ => by kernel_rfl⟩
theorem agg72 : aggB Tryz.prog 72 2 = true := by kernel_rfl
theorem zero72 : (Tryz.prog.info? 72).map (·.zero) = some (some (.agg #[.int .i64 0, .slice none 0 0])) := by kernel_rfl
theorem fld84_0 : fldB Tryz.prog 84 0 0 = true := by kernel_rfl
theorem bt84 : BuildTy Tryz.prog 84 [(0, 1), (1, 1), (2, 1), (3, 1)] [.int .i64 0, .string ByteArray.empty, .string ByteArray.empty, .string ByteArray.empty] := ⟨by kernel_rfl, _, Tryz.underlying84, fun _ => by kernel_rfl⟩
theorem agg84 : aggB Tryz.prog 84 4 = true := by kernel_rfl
theorem zero84 : (Tryz.prog.info? 84).map (·.zero) = some (some (.agg #[.int .i64 0, .string ByteArray.empty, .string ByteArray.empty, .string ByteArray.empty])) := by kernel_rfl
theorem scal91 : scalB Tryz.prog 91 = true := by kernel_rfl
theorem scal92 : scalB Tryz.prog 92 = true := by kernel_rfl
theorem scal93 : scalB Tryz.prog 93 = true := by kernel_rfl
theorem scal94 : scalB Tryz.prog 94 = true := by kernel_rfl
theorem fld96_0 : fldB Tryz.prog 96 0 0 = true := by kernel_rfl
theorem fld96_1 : fldB Tryz.prog 96 1 1 = true := by kernel_rfl
theorem fld96_2 : fldB Tryz.prog 96 2 2 = true := by kernel_rfl
theorem fld96_3 : fldB Tryz.prog 96 3 3 = true := by kernel_rfl
theorem fld96_4 : fldB Tryz.prog 96 4 4 = true := by kernel_rfl
theorem fld96_5 : fldB Tryz.prog 96 5 5 = true := by kernel_rfl
theorem fld96_6 : fldB Tryz.prog 96 6 6 = true := by kernel_rfl
theorem bt96 : BuildTy Tryz.prog 96 [(0, 1), (1, 1), (2, 1), (3, 1), (4, 1), (5, 1), (6, 1)] [.slice none 0 0, .slice none 0 0, .slice none 0 0, .slice none 0 0, .slice none 0 0, .slice none 0 0, .slice none 0 0] := ⟨by kernel_rfl, _, Tryz.underlying96, fun _ => by kernel_rfl⟩
theorem agg96 : aggB Tryz.prog 96 7 = true := by kernel_rfl
theorem arr104 : ArrTy Tryz.prog 104 4 5 1 := ⟨Tryz.underlying104, by kernel_rfl⟩
theorem bar104 : BuildAr Tryz.prog 104 4 5 [.int .u8 0, .int .u8 0, .int .u8 0, .int .u8 0] := ⟨by kernel_rfl, Tryz.underlying104, by kernel_rfl⟩
theorem agg104 : aggB Tryz.prog 104 4 = true := by kernel_rfl
theorem zero104 : (Tryz.prog.info? 104).map (·.zero) = some (some (.agg #[.int .u8 0, .int .u8 0, .int .u8 0, .int .u8 0])) := by kernel_rfl
theorem scal106 : scalB Tryz.prog 106 = true := by kernel_rfl
theorem one106 : (Tryz.prog.info? 106).map (·.size) = some 1 := by kernel_rfl
theorem arr158 : ArrTy Tryz.prog 158 16 106 1 := ⟨Tryz.underlying158, by kernel_rfl⟩
theorem zero158 : (Tryz.prog.info? 158).map (·.zero) = some (some (.agg #[.int .u32 0, .int .u32 0, .int .u32 0, .int .u32 0, .int .u32 0, .int .u32 0, .int .u32 0, .int .u32 0, .int .u32 0, .int .u32 0, .int .u32 0, .int .u32 0, .int .u32 0, .int .u32 0, .int .u32 0, .int .u32 0])) := by kernel_rfl
theorem ent7 : Enters Tryz.prog 7 := .of Tryz.func7 rfl (by kernel_rfl)
theorem ent8 : Enters Tryz.prog 8 := .of Tryz.func8 rfl (by kernel_rfl)
theorem ent9 : Enters Tryz.prog 9 := .of Tryz.func9 rfl (by kernel_rfl)
theorem ent10 : Enters Tryz.prog 10 := .of Tryz.func10 rfl (by kernel_rfl)
theorem ent12 : Enters Tryz.prog 12 := .of Tryz.func12 rfl (by kernel_rfl)
theorem ent13 : Enters Tryz.prog 13 := .of Tryz.func13 rfl (by kernel_rfl)
theorem ent15 : Enters Tryz.prog 15 := .of Tryz.func15 rfl (by kernel_rfl)
theorem ent19 : Enters Tryz.prog 19 := .of Tryz.func19 rfl (by kernel_rfl)
theorem ent20 : Enters Tryz.prog 20 := .of Tryz.func20 rfl (by kernel_rfl)
theorem ent21 : Enters Tryz.prog 21 := .of Tryz.func21 rfl (by kernel_rfl)
theorem ent22 : Enters Tryz.prog 22 := .of Tryz.func22 rfl (by kernel_rfl)
theorem ent23 : Enters Tryz.prog 23 := .of Tryz.func23 rfl (by kernel_rfl)
theorem ent24 : Enters Tryz.prog 24 := .of Tryz.func24 rfl (by kernel_rfl)
theorem ent25 : Enters Tryz.prog 25 := .of Tryz.func25 rfl (by kernel_rfl)
theorem ent26 : Enters Tryz.prog 26 := .of Tryz.func26 rfl (by kernel_rfl)
theorem ent27 : Enters Tryz.prog 27 := .of Tryz.func27 rfl (by kernel_rfl)
theorem ent28 : Enters Tryz.prog 28 := .of Tryz.func28 rfl (by kernel_rfl)
theorem ent29 : Enters Tryz.prog 29 := .of Tryz.func29 rfl (by kernel_rfl)
theorem ent30 : Enters Tryz.prog 30 := .of Tryz.func30 rfl (by kernel_rfl)
theorem ent31 : Enters Tryz.prog 31 := .of Tryz.func31 rfl (by kernel_rfl)
theorem ent32 : Enters Tryz.prog 32 := .of Tryz.func32 rfl (by kernel_rfl)
theorem ent33 : Enters Tryz.prog 33 := .of Tryz.func33 rfl (by kernel_rfl)
theorem ent34 : Enters Tryz.prog 34 := .of Tryz.func34 rfl (by kernel_rfl)
theorem ent35 : Enters Tryz.prog 35 := .of Tryz.func35 rfl (by kernel_rfl)
theorem ent36 : Enters Tryz.prog 36 := .of Tryz.func36 rfl (by kernel_rfl)
theorem ent37 : Enters Tryz.prog 37 := .of Tryz.func37 rfl (by kernel_rfl)
theorem ent38 : Enters Tryz.prog 38 := .of Tryz.func38 rfl (by kernel_rfl)
theorem ent49 : Enters Tryz.prog 49 := .of Tryz.func49 rfl (by kernel_rfl)
theorem ent50 : Enters Tryz.prog 50 := .of Tryz.func50 rfl (by kernel_rfl)
theorem ent51 : Enters Tryz.prog 51 := .of Tryz.func51 rfl (by kernel_rfl)
theorem ent52 : Enters Tryz.prog 52 := .of Tryz.func52 rfl (by kernel_rfl)
theorem ent55 : Enters Tryz.prog 55 := .of Tryz.func55 rfl (by kernel_rfl)
theorem ent56 : Enters Tryz.prog 56 := .of Tryz.func56 rfl (by kernel_rfl)
theorem ent57 : Enters Tryz.prog 57 := .of Tryz.func57 rfl (by kernel_rfl)
theorem ent58 : Enters Tryz.prog 58 := .of Tryz.func58 rfl (by kernel_rfl)
theorem ent59 : Enters Tryz.prog 59 := .of Tryz.func59 rfl (by kernel_rfl)
theorem ent61 : Enters Tryz.prog 61 := .of Tryz.func61 rfl (by kernel_rfl)
theorem ent62 : Enters Tryz.prog 62 := .of Tryz.func62 rfl (by kernel_rfl)
theorem ent63 : Enters Tryz.prog 63 := .of Tryz.func63 rfl (by kernel_rfl)
theorem ent64 : Enters Tryz.prog 64 := .of Tryz.func64 rfl (by kernel_rfl)
theorem ent65 : Enters Tryz.prog 65 := .of Tryz.func65 rfl (by kernel_rfl)
theorem ent66 : Enters Tryz.prog 66 := .of Tryz.func66 rfl (by kernel_rfl)
theorem ent89 : Enters Tryz.prog 89 := .of Tryz.func89 rfl (by kernel_rfl)
theorem ent90 : Enters Tryz.prog 90 := .of Tryz.func90 rfl (by kernel_rfl)
theorem ent91 : Enters Tryz.prog 91 := .of Tryz.func91 rfl (by kernel_rfl)
theorem ent92 : Enters Tryz.prog 92 := .of Tryz.func92 rfl (by kernel_rfl)
theorem ent96 : Enters Tryz.prog 96 := .of Tryz.func96 rfl (by kernel_rfl)
theorem ent97 : Enters Tryz.prog 97 := .of Tryz.func97 rfl (by kernel_rfl)
theorem ent98 : Enters Tryz.prog 98 := .of Tryz.func98 rfl (by kernel_rfl)
theorem ent99 : Enters Tryz.prog 99 := .of Tryz.func99 rfl (by kernel_rfl)
theorem ent100 : Enters Tryz.prog 100 := .of Tryz.func100 rfl (by kernel_rfl)
theorem ent106 : Enters Tryz.prog 106 := .of Tryz.func106 rfl (by kernel_rfl)
theorem ent107 : Enters Tryz.prog 107 := .of Tryz.func107 rfl (by kernel_rfl)
theorem ent108 : Enters Tryz.prog 108 := .of Tryz.func108 rfl (by kernel_rfl)
theorem ent124 : Enters Tryz.prog 124 := .of Tryz.func124 rfl (by kernel_rfl)
theorem ent125 : Enters Tryz.prog 125 := .of Tryz.func125 rfl (by kernel_rfl)
theorem ent126 : Enters Tryz.prog 126 := .of Tryz.func126 rfl (by kernel_rfl)
theorem ent132 : Enters Tryz.prog 132 := .of Tryz.func132 rfl (by kernel_rfl)
theorem ent133 : Enters Tryz.prog 133 := .of Tryz.func133 rfl (by kernel_rfl)
theorem ent134 : Enters Tryz.prog 134 := .of Tryz.func134 rfl (by kernel_rfl)
theorem ent135 : Enters Tryz.prog 135 := .of Tryz.func135 rfl (by kernel_rfl)
theorem ent136 : Enters Tryz.prog 136 := .of Tryz.func136 rfl (by kernel_rfl)
theorem ent137 : Enters Tryz.prog 137 := .of Tryz.func137 rfl (by kernel_rfl)
theorem ent147 : Enters Tryz.prog 147 := .of Tryz.func147 rfl (by kernel_rfl)
theorem ent186 : Enters Tryz.prog 186 := .of Tryz.func186 rfl (by kernel_rfl)
theorem mixed : Tryz.prog.follows .mixedOrders = true := by kernel_rfl
end Go.Proofs.YtecfgjdpghddgaaGreatDoor
