/-
  TABLES: closed facts on the types and functions of this seat (printed by our own program gtypes.py).
-/
import Derived.Test.YtfhbflhnelbkfaaKm
import Derived.Test.YtfhbflhnelbkfaaRows
namespace Go.Proofs.Ytfhbflhnelbkfaa
open Go.RowKit Go.Kw
set_option maxRecDepth 100000
theorem scal1 : scalB Try.prog 1 = true := by kernel_rfl
theorem one1 : (Try.prog.info? 1).map (·.size) = some 1 := by kernel_rfl
theorem scal2 : scalB Try.prog 2 = true := by kernel_rfl
theorem one2 : (Try.prog.info? 2).map (·.size) = some 1 := by kernel_rfl
theorem zero2 : (Try.prog.info? 2).map (·.zero) = some (some (.int .i64 0)) := by kernel_rfl
theorem scal3 : scalB Try.prog 3 = true := by kernel_rfl
theorem one3 : (Try.prog.info? 3).map (·.size) = some 1 := by kernel_rfl
theorem zero3 : (Try.prog.info? 3).map (·.zero) = some (some (.int .i64 0)) := by kernel_rfl
theorem scal4 : scalB Try.prog 4 = true := by kernel_rfl
theorem one4 : (Try.prog.info? 4).map (·.size) = some 1 := by kernel_rfl
theorem zero4 : (Try.prog.info? 4).map (·.zero) = some (some (.bool false)) := by kernel_rfl
theorem scal5 : scalB Try.prog 5 = true := by kernel_rfl
theorem one5 : (Try.prog.info? 5).map (·.size) = some 1 := by kernel_rfl
theorem zero5 : (Try.prog.info? 5).map (·.zero) = some (some (.int .u8 0)) := by kernel_rfl
theorem scal6 : scalB Try.prog 6 = true := by kernel_rfl
theorem one6 : (Try.prog.info? 6).map (·.size) = some 1 := by kernel_rfl
theorem zero6 : (Try.prog.info? 6).map (·.zero) = some (some (.int .u8 0)) := by kernel_rfl
theorem fld7_0 : fldB Try.prog 7 0 0 = true := by kernel_rfl
theorem fld7_1 : fldB Try.prog 7 1 1 = true := by kernel_rfl
theorem fld7_2 : fldB Try.prog 7 2 2 = true := by kernel_rfl
theorem fld7_3 : fldB Try.prog 7 3 3 = true := by kernel_rfl
theorem bt7 : BuildTy Try.prog 7 [(0, 1), (1, 1), (2, 1), (3, 1)] [.int .i64 0, .int .i64 0, .bool false, .int .u8 0] := ⟨by kernel_rfl, _, Try.underlying7, fun _ => by kernel_rfl⟩
theorem agg7 : aggB Try.prog 7 4 = true := by kernel_rfl
theorem zero7 : (Try.prog.info? 7).map (·.zero) = some (some (.agg #[.int .i64 0, .int .i64 0, .bool false, .int .u8 0])) := by kernel_rfl
theorem fld8_0 : fldB Try.prog 8 0 0 = true := by kernel_rfl
theorem fld8_1 : fldB Try.prog 8 1 1 = true := by kernel_rfl
theorem fld8_2 : fldB Try.prog 8 2 2 = true := by kernel_rfl
theorem fld8_3 : fldB Try.prog 8 3 3 = true := by kernel_rfl
theorem bt8 : BuildTy Try.prog 8 [(0, 1), (1, 1), (2, 1), (3, 1)] [.int .i64 0, .int .i64 0, .bool false, .int .u8 0] := ⟨by kernel_rfl, _, Try.underlying8, fun _ => by kernel_rfl⟩
theorem agg8 : aggB Try.prog 8 4 = true := by kernel_rfl
theorem zero8 : (Try.prog.info? 8).map (·.zero) = some (some (.agg #[.int .i64 0, .int .i64 0, .bool false, .int .u8 0])) := by kernel_rfl
theorem scal9 : scalB Try.prog 9 = true := by kernel_rfl
theorem one9 : (Try.prog.info? 9).map (·.size) = some 1 := by kernel_rfl
theorem zero9 : (Try.prog.info? 9).map (·.zero) = some (some (.string ByteArray.empty)) := by kernel_rfl
theorem scal10 : scalB Try.prog 10 = true := by kernel_rfl
theorem one10 : (Try.prog.info? 10).map (·.size) = some 1 := by kernel_rfl
theorem zero10 : (Try.prog.info? 10).map (·.zero) = some (some (.string ByteArray.empty)) := by kernel_rfl
theorem scal11 : scalB Try.prog 11 = true := by kernel_rfl
theorem one11 : (Try.prog.info? 11).map (·.size) = some 1 := by kernel_rfl
theorem zero11 : (Try.prog.info? 11).map (·.zero) = some (some (.string ByteArray.empty)) := by kernel_rfl
theorem scal12 : scalB Try.prog 12 = true := by kernel_rfl
theorem one12 : (Try.prog.info? 12).map (·.size) = some 1 := by kernel_rfl
theorem zero12 : (Try.prog.info? 12).map (·.zero) = some (some (.int .u64 0)) := by kernel_rfl
theorem fld13_0 : fldB Try.prog 13 0 0 = true := by kernel_rfl
theorem fld13_1 : fldB Try.prog 13 1 1 = true := by kernel_rfl
theorem bt13 : BuildTy Try.prog 13 [(0, 1), (1, 1)] [.string ByteArray.empty, .int .u64 0] := ⟨by kernel_rfl, _, Try.underlying13, fun _ => by kernel_rfl⟩
theorem agg13 : aggB Try.prog 13 2 = true := by kernel_rfl
theorem zero13 : (Try.prog.info? 13).map (·.zero) = some (some (.agg #[.string ByteArray.empty, .int .u64 0])) := by kernel_rfl
theorem fld14_0 : fldB Try.prog 14 0 0 = true := by kernel_rfl
theorem fld14_1 : fldB Try.prog 14 1 1 = true := by kernel_rfl
theorem bt14 : BuildTy Try.prog 14 [(0, 1), (1, 1)] [.string ByteArray.empty, .int .u64 0] := ⟨by kernel_rfl, _, Try.underlying14, fun _ => by kernel_rfl⟩
theorem agg14 : aggB Try.prog 14 2 = true := by kernel_rfl
theorem zero14 : (Try.prog.info? 14).map (·.zero) = some (some (.agg #[.string ByteArray.empty, .int .u64 0])) := by kernel_rfl
theorem scal15 : scalB Try.prog 15 = true := by kernel_rfl
theorem one15 : (Try.prog.info? 15).map (·.size) = some 1 := by kernel_rfl
theorem zero15 : (Try.prog.info? 15).map (·.zero) = some (some (.pointer none)) := by kernel_rfl
theorem scal16 : scalB Try.prog 16 = true := by kernel_rfl
theorem one16 : (Try.prog.info? 16).map (·.size) = some 1 := by kernel_rfl
theorem zero16 : (Try.prog.info? 16).map (·.zero) = some (some (.pointer none)) := by kernel_rfl
theorem scal17 : scalB Try.prog 17 = true := by kernel_rfl
theorem one17 : (Try.prog.info? 17).map (·.size) = some 1 := by kernel_rfl
theorem zero17 : (Try.prog.info? 17).map (·.zero) = some (some (.pointer none)) := by kernel_rfl
theorem fld18_0 : fldB Try.prog 18 0 0 = true := by kernel_rfl
theorem bt18 : BuildTy Try.prog 18 [(0, 1)] [.pointer none] := ⟨by kernel_rfl, _, Try.underlying18, fun _ => by kernel_rfl⟩
theorem agg18 : aggB Try.prog 18 1 = true := by kernel_rfl
theorem zero18 : (Try.prog.info? 18).map (·.zero) = some (some (.agg #[.pointer none])) := by kernel_rfl
theorem fld19_0 : fldB Try.prog 19 0 0 = true := by kernel_rfl
theorem bt19 : BuildTy Try.prog 19 [(0, 1)] [.pointer none] := ⟨by kernel_rfl, _, Try.underlying19, fun _ => by kernel_rfl⟩
theorem agg19 : aggB Try.prog 19 1 = true := by kernel_rfl
theorem zero19 : (Try.prog.info? 19).map (·.zero) = some (some (.agg #[.pointer none])) := by kernel_rfl
theorem scal20 : scalB Try.prog 20 = true := by kernel_rfl
theorem one20 : (Try.prog.info? 20).map (·.size) = some 1 := by kernel_rfl
theorem scal21 : scalB Try.prog 21 = true := by kernel_rfl
theorem one21 : (Try.prog.info? 21).map (·.size) = some 1 := by kernel_rfl
theorem zero21 : (Try.prog.info? 21).map (·.zero) = some (some (.int .i32 0)) := by kernel_rfl
theorem scal22 : scalB Try.prog 22 = true := by kernel_rfl
theorem one22 : (Try.prog.info? 22).map (·.size) = some 1 := by kernel_rfl
theorem sl22 : SlTy Try.prog 22 3 1 (.int .i64 0) 8 := .of Try.underlying22 (by kernel_rfl) rfl (by decide)
theorem zero22 : (Try.prog.info? 22).map (·.zero) = some (some (.slice none 0 0)) := by kernel_rfl
theorem scal23 : scalB Try.prog 23 = true := by kernel_rfl
theorem one23 : (Try.prog.info? 23).map (·.size) = some 1 := by kernel_rfl
theorem zero23 : (Try.prog.info? 23).map (·.zero) = some (some (.pointer none)) := by kernel_rfl
theorem scal25 : scalB Try.prog 25 = true := by kernel_rfl
theorem one25 : (Try.prog.info? 25).map (·.size) = some 1 := by kernel_rfl
theorem scal26 : scalB Try.prog 26 = true := by kernel_rfl
theorem one26 : (Try.prog.info? 26).map (·.size) = some 1 := by kernel_rfl
theorem scal27 : scalB Try.prog 27 = true := by kernel_rfl
theorem one27 : (Try.prog.info? 27).map (·.size) = some 1 := by kernel_rfl
theorem scal28 : scalB Try.prog 28 = true := by kernel_rfl
theorem one28 : (Try.prog.info? 28).map (·.size) = some 1 := by kernel_rfl
theorem scal30 : scalB Try.prog 30 = true := by kernel_rfl
theorem one30 : (Try.prog.info? 30).map (·.size) = some 1 := by kernel_rfl
theorem scal31 : scalB Try.prog 31 = true := by kernel_rfl
theorem one31 : (Try.prog.info? 31).map (·.size) = some 1 := by kernel_rfl
theorem scal32 : scalB Try.prog 32 = true := by kernel_rfl
theorem one32 : (Try.prog.info? 32).map (·.size) = some 1 := by kernel_rfl
theorem zero32 : (Try.prog.info? 32).map (·.zero) = some (some (.int .i64 0)) := by kernel_rfl
theorem scal34 : scalB Try.prog 34 = true := by kernel_rfl
theorem one34 : (Try.prog.info? 34).map (·.size) = some 1 := by kernel_rfl
theorem scal35 : scalB Try.prog 35 = true := by kernel_rfl
theorem one35 : (Try.prog.info? 35).map (·.size) = some 1 := by kernel_rfl
theorem scal37 : scalB Try.prog 37 = true := by kernel_rfl
theorem one37 : (Try.prog.info? 37).map (·.size) = some 1 := by kernel_rfl
theorem scal38 : scalB Try.prog 38 = true := by kernel_rfl
theorem one38 : (Try.prog.info? 38).map (·.size) = some 1 := by kernel_rfl
theorem scal39 : scalB Try.prog 39 = true := by kernel_rfl
theorem one39 : (Try.prog.info? 39).map (·.size) = some 1 := by kernel_rfl
theorem scal40 : scalB Try.prog 40 = true := by kernel_rfl
theorem one40 : (Try.prog.info? 40).map (·.size) = some 1 := by kernel_rfl
theorem sl40 : SlTy Try.prog 40 5 1 (.int .u8 0) 1 := .of Try.underlying40 (by kernel_rfl) rfl (by decide)
theorem zero40 : (Try.prog.info? 40).map (·.zero) = some (some (.slice none 0 0)) := by kernel_rfl
theorem scal41 : scalB Try.prog 41 = true := by kernel_rfl
theorem one41 : (Try.prog.info? 41).map (·.size) = some 1 := by kernel_rfl
theorem scal42 : scalB Try.prog 42 = true := by kernel_rfl
theorem one42 : (Try.prog.info? 42).map (·.size) = some 1 := by kernel_rfl
theorem scal43 : scalB Try.prog 43 = true := by kernel_rfl
theorem one43 : (Try.prog.info? 43).map (·.size) = some 1 := by kernel_rfl
theorem scal44 : scalB Try.prog 44 = true := by kernel_rfl
theorem one44 : (Try.prog.info? 44).map (·.size) = some 1 := by kernel_rfl
theorem scal45 : scalB Try.prog 45 = true := by kernel_rfl
theorem one45 : (Try.prog.info? 45).map (·.size) = some 1 := by kernel_rfl
theorem sl45 : SlTy Try.prog 45 9 1 (.string ByteArray.empty) 16 := .of Try.underlying45 (by kernel_rfl) rfl (by decide)
theorem zero45 : (Try.prog.info? 45).map (·.zero) = some (some (.slice none 0 0)) := by kernel_rfl
theorem scal46 : scalB Try.prog 46 = true := by kernel_rfl
theorem one46 : (Try.prog.info? 46).map (·.size) = some 1 := by kernel_rfl
theorem zero46 : (Try.prog.info? 46).map (·.zero) = some (some (.pointer none)) := by kernel_rfl
theorem scal48 : scalB Try.prog 48 = true := by kernel_rfl
theorem one48 : (Try.prog.info? 48).map (·.size) = some 1 := by kernel_rfl
theorem scal49 : scalB Try.prog 49 = true := by kernel_rfl
theorem one49 : (Try.prog.info? 49).map (·.size) = some 1 := by kernel_rfl
theorem fld50_0 : fldB Try.prog 50 0 0 = true := by kernel_rfl
theorem fld50_1 : fldB Try.prog 50 1 1 = true := by kernel_rfl
theorem bt50 : BuildTy Try.prog 50 [(0, 1), (1, 1)] [.slice none 0 0, .slice none 0 0] := ⟨by kernel_rfl, _, Try.underlying50, fun _ => by kernel_rfl⟩
theorem agg50 : aggB Try.prog 50 2 = true := by kernel_rfl
theorem zero50 : (Try.prog.info? 50).map (·.zero) = some (some (.agg #[.slice none 0 0, .slice none 0 0])) := by kernel_rfl
theorem fld51_0 : fldB Try.prog 51 0 0 = true := by kernel_rfl
theorem fld51_1 : fldB Try.prog 51 1 1 = true := by kernel_rfl
theorem bt51 : BuildTy Try.prog 51 [(0, 1), (1, 1)] [.slice none 0 0, .slice none 0 0] := ⟨by kernel_rfl, _, Try.underlying51, fun _ => by kernel_rfl⟩
theorem agg51 : aggB Try.prog 51 2 = true := by kernel_rfl
theorem zero51 : (Try.prog.info? 51).map (·.zero) = some (some (.agg #[.slice none 0 0, .slice none 0 0])) := by kernel_rfl
theorem scal53 : scalB Try.prog 53 = true := by kernel_rfl
theorem one53 : (Try.prog.info? 53).map (·.size) = some 1 := by kernel_rfl
theorem scal54 : scalB Try.prog 54 = true := by kernel_rfl
theorem one54 : (Try.prog.info? 54).map (·.size) = some 1 := by kernel_rfl
theorem scal56 : scalB Try.prog 56 = true := by kernel_rfl
theorem one56 : (Try.prog.info? 56).map (·.size) = some 1 := by kernel_rfl
theorem scal57 : scalB Try.prog 57 = true := by kernel_rfl
theorem one57 : (Try.prog.info? 57).map (·.size) = some 1 := by kernel_rfl
theorem scal58 : scalB Try.prog 58 = true := by kernel_rfl
theorem one58 : (Try.prog.info? 58).map (·.size) = some 1 := by kernel_rfl
theorem scal60 : scalB Try.prog 60 = true := by kernel_rfl
theorem one60 : (Try.prog.info? 60).map (·.size) = some 1 := by kernel_rfl
theorem scal61 : scalB Try.prog 61 = true := by kernel_rfl
theorem one61 : (Try.prog.info? 61).map (·.size) = some 1 := by kernel_rfl
theorem scal62 : scalB Try.prog 62 = true := by kernel_rfl
theorem one62 : (Try.prog.info? 62).map (·.size) = some 1 := by kernel_rfl
theorem scal63 : scalB Try.prog 63 = true := by kernel_rfl
theorem one63 : (Try.prog.info? 63).map (·.size) = some 1 := by kernel_rfl
theorem scal64 : scalB Try.prog 64 = true := by kernel_rfl
theorem one64 : (Try.prog.info? 64).map (·.size) = some 1 := by kernel_rfl
theorem scal66 : scalB Try.prog 66 = true := by kernel_rfl
theorem one66 : (Try.prog.info? 66).map (·.size) = some 1 := by kernel_rfl
theorem scal68 : scalB Try.prog 68 = true := by kernel_rfl
theorem one68 : (Try.prog.info? 68).map (·.size) = some 1 := by kernel_rfl
theorem scal69 : scalB Try.prog 69 = true := by kernel_rfl
theorem one69 : (Try.prog.info? 69).map (·.size) = some 1 := by kernel_rfl
theorem scal70 : scalB Try.prog 70 = true := by kernel_rfl
theorem one70 : (Try.prog.info? 70).map (·.size) = some 1 := by kernel_rfl
theorem scal72 : scalB Try.prog 72 = true := by kernel_rfl
theorem one72 : (Try.prog.info? 72).map (·.size) = some 1 := by kernel_rfl
theorem scal74 : scalB Try.prog 74 = true := by kernel_rfl
theorem one74 : (Try.prog.info? 74).map (·.size) = some 1 := by kernel_rfl
theorem scal75 : scalB Try.prog 75 = true := by kernel_rfl
theorem one75 : (Try.prog.info? 75).map (·.size) = some 1 := by kernel_rfl
theorem scal76 : scalB Try.prog 76 = true := by kernel_rfl
theorem one76 : (Try.prog.info? 76).map (·.size) = some 1 := by kernel_rfl
theorem scal77 : scalB Try.prog 77 = true := by kernel_rfl
theorem one77 : (Try.prog.info? 77).map (·.size) = some 1 := by kernel_rfl
theorem sl77 : SlTy Try.prog 77 124 2 (.agg #[.slice none 0 0, .int .i64 0]) 32 := .of Try.underlying77 (by kernel_rfl) rfl (by decide)
theorem zero77 : (Try.prog.info? 77).map (·.zero) = some (some (.slice none 0 0)) := by kernel_rfl
theorem fld78_0 : fldB Try.prog 78 0 0 = true := by kernel_rfl
theorem fld78_1 : fldB Try.prog 78 1 1 = true := by kernel_rfl
theorem fld78_2 : fldB Try.prog 78 2 2 = true := by kernel_rfl
theorem fld78_3 : fldB Try.prog 78 3 3 = true := by kernel_rfl
theorem fld78_4 : fldB Try.prog 78 4 4 = true := by kernel_rfl
theorem fld78_5 : fldB Try.prog 78 5 5 = true := by kernel_rfl
theorem bt78 : BuildTy Try.prog 78 [(0, 1), (1, 1), (2, 1), (3, 1), (4, 1), (5, 1)] [.int .i64 0, .int .i64 0, .slice none 0 0, .slice none 0 0, .int .i64 0, .slice none 0 0] := ⟨by kernel_rfl, _, Try.underlying78, fun _ => by kernel_rfl⟩
theorem agg78 : aggB Try.prog 78 6 = true := by kernel_rfl
theorem zero78 : (Try.prog.info? 78).map (·.zero) = some (some (.agg #[.int .i64 0, .int .i64 0, .slice none 0 0, .slice none 0 0, .int .i64 0, .slice none 0 0])) := by kernel_rfl
theorem fld79_0 : fldB Try.prog 79 0 0 = true := by kernel_rfl
theorem fld79_1 : fldB Try.prog 79 1 1 = true := by kernel_rfl
theorem fld79_2 : fldB Try.prog 79 2 2 = true := by kernel_rfl
theorem fld79_3 : fldB Try.prog 79 3 3 = true := by kernel_rfl
theorem fld79_4 : fldB Try.prog 79 4 4 = true := by kernel_rfl
theorem fld79_5 : fldB Try.prog 79 5 5 = true := by kernel_rfl
theorem bt79 : BuildTy Try.prog 79 [(0, 1), (1, 1), (2, 1), (3, 1), (4, 1), (5, 1)] [.int .i64 0, .int .i64 0, .slice none 0 0, .slice none 0 0, .int .i64 0, .slice none 0 0] := ⟨by kernel_rfl, _, Try.underlying79, fun _ => by kernel_rfl⟩
theorem agg79 : aggB Try.prog 79 6 = true := by kernel_rfl
theorem zero79 : (Try.prog.info? 79).map (·.zero) = some (some (.agg #[.int .i64 0, .int .i64 0, .slice none 0 0, .slice none 0 0, .int .i64 0, .slice none 0 0])) := by kernel_rfl
theorem scal80 : scalB Try.prog 80 = true := by kernel_rfl
theorem one80 : (Try.prog.info? 80).map (·.size) = some 1 := by kernel_rfl
theorem scal81 : scalB Try.prog 81 = true := by kernel_rfl
theorem one81 : (Try.prog.info? 81).map (·.size) = some 1 := by kernel_rfl
theorem scal82 : scalB Try.prog 82 = true := by kernel_rfl
theorem one82 : (Try.prog.info? 82).map (·.size) = some 1 := by kernel_rfl
theorem scal84 : scalB Try.prog 84 = true := by kernel_rfl
theorem one84 : (Try.prog.info? 84).map (·.size) = some 1 := by kernel_rfl
theorem fld85_0 : fldB Try.prog 85 0 0 = true := by kernel_rfl
theorem fld85_1 : fldB Try.prog 85 1 1 = true := by kernel_rfl
theorem bt85 : BuildTy Try.prog 85 [(0, 1), (1, 1)] [.slice none 0 0, .bool false] := ⟨by kernel_rfl, _, Try.underlying85, fun _ => by kernel_rfl⟩
theorem agg85 : aggB Try.prog 85 2 = true := by kernel_rfl
theorem zero85 : (Try.prog.info? 85).map (·.zero) = some (some (.agg #[.slice none 0 0, .bool false])) := by kernel_rfl
theorem fld86_0 : fldB Try.prog 86 0 0 = true := by kernel_rfl
theorem fld86_1 : fldB Try.prog 86 1 1 = true := by kernel_rfl
theorem bt86 : BuildTy Try.prog 86 [(0, 1), (1, 1)] [.slice none 0 0, .bool false] := ⟨by kernel_rfl, _, Try.underlying86, fun _ => by kernel_rfl⟩
theorem agg86 : aggB Try.prog 86 2 = true := by kernel_rfl
theorem zero86 : (Try.prog.info? 86).map (·.zero) = some (some (.agg #[.slice none 0 0, .bool false])) := by kernel_rfl
theorem scal87 : scalB Try.prog 87 = true := by kernel_rfl
theorem one87 : (Try.prog.info? 87).map (·.size) = some 1 := by kernel_rfl
theorem scal88 : scalB Try.prog 88 = true := by kernel_rfl
theorem one88 : (Try.prog.info? 88).map (·.size) = some 1 := by kernel_rfl
theorem scal89 : scalB Try.prog 89 = true := by kernel_rfl
theorem one89 : (Try.prog.info? 89).map (·.size) = some 1 := by kernel_rfl
theorem zero89 : (Try.prog.info? 89).map (·.zero) = some (some (.map none)) := by kernel_rfl
theorem scal90 : scalB Try.prog 90 = true := by kernel_rfl
theorem one90 : (Try.prog.info? 90).map (·.size) = some 1 := by kernel_rfl
theorem fld91_0 : fldB Try.prog 91 0 0 = true := by kernel_rfl
theorem fld91_1 : fldB Try.prog 91 1 1 = true := by kernel_rfl
theorem fld91_2 : fldB Try.prog 91 2 2 = true := by kernel_rfl
theorem bt91 : BuildTy Try.prog 91 [(0, 1), (1, 1), (2, 1)] [.slice none 0 0, .slice none 0 0, .slice none 0 0] := ⟨by kernel_rfl, _, Try.underlying91, fun _ => by kernel_rfl⟩
theorem agg91 : aggB Try.prog 91 3 = true := by kernel_rfl
theorem zero91 : (Try.prog.info? 91).map (·.zero) = some (some (.agg #[.slice none 0 0, .slice none 0 0, .slice none 0 0])) := by kernel_rfl
theorem fld92_0 : fldB Try.prog 92 0 0 = true := by kernel_rfl
theorem fld92_1 : fldB Try.prog 92 1 1 = true := by kernel_rfl
theorem fld92_2 : fldB Try.prog 92 2 2 = true := by kernel_rfl
theorem bt92 : BuildTy Try.prog 92 [(0, 1), (1, 1), (2, 1)] [.slice none 0 0, .slice none 0 0, .slice none 0 0] := ⟨by kernel_rfl, _, Try.underlying92, fun _ => by kernel_rfl⟩
theorem agg92 : aggB Try.prog 92 3 = true := by kernel_rfl
theorem zero92 : (Try.prog.info? 92).map (·.zero) = some (some (.agg #[.slice none 0 0, .slice none 0 0, .slice none 0 0])) := by kernel_rfl
theorem scal93 : scalB Try.prog 93 = true := by kernel_rfl
theorem one93 : (Try.prog.info? 93).map (·.size) = some 1 := by kernel_rfl
theorem scal95 : scalB Try.prog 95 = true := by kernel_rfl
theorem one95 : (Try.prog.info? 95).map (·.size) = some 1 := by kernel_rfl
theorem scal96 : scalB Try.prog 96 = true := by kernel_rfl
theorem one96 : (Try.prog.info? 96).map (·.size) = some 1 := by kernel_rfl
theorem scal97 : scalB Try.prog 97 = true := by kernel_rfl
theorem one97 : (Try.prog.info? 97).map (·.size) = some 1 := by kernel_rfl
theorem scal98 : scalB Try.prog 98 = true := by kernel_rfl
theorem one98 : (Try.prog.info? 98).map (·.size) = some 1 := by kernel_rfl
theorem scal99 : scalB Try.prog 99 = true := by kernel_rfl
theorem one99 : (Try.prog.info? 99).map (·.size) = some 1 := by kernel_rfl
theorem scal100 : scalB Try.prog 100 = true := by kernel_rfl
theorem one100 : (Try.prog.info? 100).map (·.size) = some 1 := by kernel_rfl
theorem sl100 : SlTy Try.prog 100 103 3 (.agg #[.int .i32 0, .int .i64 0, .int .i64 0]) 24 := .of Try.underlying100 (by kernel_rfl) rfl (by decide)
theorem zero100 : (Try.prog.info? 100).map (·.zero) = some (some (.slice none 0 0)) := by kernel_rfl
theorem scal101 : scalB Try.prog 101 = true := by kernel_rfl
theorem one101 : (Try.prog.info? 101).map (·.size) = some 1 := by kernel_rfl
theorem fld102_0 : fldB Try.prog 102 0 0 = true := by kernel_rfl
theorem fld102_1 : fldB Try.prog 102 1 1 = true := by kernel_rfl
theorem fld102_2 : fldB Try.prog 102 2 2 = true := by kernel_rfl
theorem bt102 : BuildTy Try.prog 102 [(0, 1), (1, 1), (2, 1)] [.int .i32 0, .int .i64 0, .int .i64 0] := ⟨by kernel_rfl, _, Try.underlying102, fun _ => by kernel_rfl⟩
theorem agg102 : aggB Try.prog 102 3 = true := by kernel_rfl
theorem zero102 : (Try.prog.info? 102).map (·.zero) = some (some (.agg #[.int .i32 0, .int .i64 0, .int .i64 0])) := by kernel_rfl
theorem fld103_0 : fldB Try.prog 103 0 0 = true := by kernel_rfl
theorem fld103_1 : fldB Try.prog 103 1 1 = true := by kernel_rfl
theorem fld103_2 : fldB Try.prog 103 2 2 = true := by kernel_rfl
theorem bt103 : BuildTy Try.prog 103 [(0, 1), (1, 1), (2, 1)] [.int .i32 0, .int .i64 0, .int .i64 0] := ⟨by kernel_rfl, _, Try.underlying103, fun _ => by kernel_rfl⟩
theorem agg103 : aggB Try.prog 103 3 = true := by kernel_rfl
theorem zero103 : (Try.prog.info? 103).map (·.zero) = some (some (.agg #[.int .i32 0, .int .i64 0, .int .i64 0])) := by kernel_rfl
theorem scal104 : scalB Try.prog 104 = true := by kernel_rfl
theorem one104 : (Try.prog.info? 104).map (·.size) = some 1 := by kernel_rfl
theorem scal105 : scalB Try.prog 105 = true := by kernel_rfl
theorem one105 : (Try.prog.info? 105).map (·.size) = some 1 := by kernel_rfl
theorem scal106 : scalB Try.prog 106 = true := by kernel_rfl
theorem one106 : (Try.prog.info? 106).map (·.size) = some 1 := by kernel_rfl
theorem sl106 : SlTy Try.prog 106 51 2 (.agg #[.slice none 0 0, .slice none 0 0]) 48 := .of Try.underlying106 (by kernel_rfl) rfl (by decide)
theorem zero106 : (Try.prog.info? 106).map (·.zero) = some (some (.slice none 0 0)) := by kernel_rfl
theorem scal107 : scalB Try.prog 107 = true := by kernel_rfl
theorem one107 : (Try.prog.info? 107).map (·.size) = some 1 := by kernel_rfl
theorem scal108 : scalB Try.prog 108 = true := by kernel_rfl
theorem one108 : (Try.prog.info? 108).map (·.size) = some 1 := by kernel_rfl
theorem zero108 : (Try.prog.info? 108).map (·.zero) = some (some (.int .u64 0)) := by kernel_rfl
theorem scal109 : scalB Try.prog 109 = true := by kernel_rfl
theorem one109 : (Try.prog.info? 109).map (·.size) = some 1 := by kernel_rfl
theorem fld110_0 : fldB Try.prog 110 0 0 = true := by kernel_rfl
theorem fld110_1 : fldB Try.prog 110 1 1 = true := by kernel_rfl
theorem bt110 : BuildTy Try.prog 110 [(0, 1), (1, 1)] [.slice none 0 0, .bool false] := ⟨by kernel_rfl, _, Try.underlying110, fun _ => by kernel_rfl⟩
theorem agg110 : aggB Try.prog 110 2 = true := by kernel_rfl
theorem zero110 : (Try.prog.info? 110).map (·.zero) = some (some (.agg #[.slice none 0 0, .bool false])) := by kernel_rfl
theorem fld111_0 : fldB Try.prog 111 0 0 = true := by kernel_rfl
theorem fld111_1 : fldB Try.prog 111 1 1 = true := by kernel_rfl
theorem bt111 : BuildTy Try.prog 111 [(0, 1), (1, 1)] [.slice none 0 0, .bool false] := ⟨by kernel_rfl, _, Try.underlying111, fun _ => by kernel_rfl⟩
theorem agg111 : aggB Try.prog 111 2 = true := by kernel_rfl
theorem zero111 : (Try.prog.info? 111).map (·.zero) = some (some (.agg #[.slice none 0 0, .bool false])) := by kernel_rfl
theorem scal112 : scalB Try.prog 112 = true := by kernel_rfl
theorem one112 : (Try.prog.info? 112).map (·.size) = some 1 := by kernel_rfl
theorem scal113 : scalB Try.prog 113 = true := by kernel_rfl
theorem one113 : (Try.prog.info? 113).map (·.size) = some 1 := by kernel_rfl
theorem scal115 : scalB Try.prog 115 = true := by kernel_rfl
theorem one115 : (Try.prog.info? 115).map (·.size) = some 1 := by kernel_rfl
theorem scal117 : scalB Try.prog 117 = true := by kernel_rfl
theorem one117 : (Try.prog.info? 117).map (·.size) = some 1 := by kernel_rfl
theorem arr118 : ArrTy Try.prog 118 2 108 1 := ⟨Try.underlying118, by kernel_rfl⟩
theorem bar118 : BuildAr Try.prog 118 2 108 [.int .u64 0, .int .u64 0] := ⟨by kernel_rfl, Try.underlying118, by kernel_rfl⟩
theorem agg118 : aggB Try.prog 118 2 = true := by kernel_rfl
theorem zero118 : (Try.prog.info? 118).map (·.zero) = some (some (.agg #[.int .u64 0, .int .u64 0])) := by kernel_rfl
theorem scal119 : scalB Try.prog 119 = true := by kernel_rfl
theorem one119 : (Try.prog.info? 119).map (·.size) = some 1 := by kernel_rfl
theorem scal120 : scalB Try.prog 120 = true := by kernel_rfl
theorem one120 : (Try.prog.info? 120).map (·.size) = some 1 := by kernel_rfl
theorem scal122 : scalB Try.prog 122 = true := by kernel_rfl
theorem one122 : (Try.prog.info? 122).map (·.size) = some 1 := by kernel_rfl
theorem fld123_0 : fldB Try.prog 123 0 0 = true := by kernel_rfl
theorem fld123_1 : fldB Try.prog 123 1 1 = true := by kernel_rfl
theorem bt123 : BuildTy Try.prog 123 [(0, 1), (1, 1)] [.slice none 0 0, .int .i64 0] := ⟨by kernel_rfl, _, Try.underlying123, fun _ => by kernel_rfl⟩
theorem agg123 : aggB Try.prog 123 2 = true := by kernel_rfl
theorem zero123 : (Try.prog.info? 123).map (·.zero) = some (some (.agg #[.slice none 0 0, .int .i64 0])) := by kernel_rfl
theorem fld124_0 : fldB Try.prog 124 0 0 = true := by kernel_rfl
theorem fld124_1 : fldB Try.prog 124 1 1 = true := by kernel_rfl
theorem bt124 : BuildTy Try.prog 124 [(0, 1), (1, 1)] [.slice none 0 0, .int .i64 0] := ⟨by kernel_rfl, _, Try.underlying124, fun _ => by kernel_rfl⟩
theorem agg124 : aggB Try.prog 124 2 = true := by kernel_rfl
theorem zero124 : (Try.prog.info? 124).map (·.zero) = some (some (.agg #[.slice none 0 0, .int .i64 0])) := by kernel_rfl
theorem scal125 : scalB Try.prog 125 = true := by kernel_rfl
theorem one125 : (Try.prog.info? 125).map (·.size) = some 1 := by kernel_rfl
theorem scal126 : scalB Try.prog 126 = true := by kernel_rfl
theorem one126 : (Try.prog.info? 126).map (·.size) = some 1 := by kernel_rfl
theorem scal127 : scalB Try.prog 127 = true := by kernel_rfl
theorem one127 : (Try.prog.info? 127).map (·.size) = some 1 := by kernel_rfl
theorem scal129 : scalB Try.prog 129 = true := by kernel_rfl
theorem one129 : (Try.prog.info? 129).map (·.size) = some 1 := by kernel_rfl
theorem arr130 : ArrTy Try.prog 130 4 5 1 := ⟨Try.underlying130, by kernel_rfl⟩
theorem bar130 : BuildAr Try.prog 130 4 5 [.int .u8 0, .int .u8 0, .int .u8 0, .int .u8 0] := ⟨by kernel_rfl, Try.underlying130, by kernel_rfl⟩
theorem agg130 : aggB Try.prog 130 4 = true := by kernel_rfl
theorem zero130 : (Try.prog.info? 130).map (·.zero) = some (some (.agg #[.int .u8 0, .int .u8 0, .int .u8 0, .int .u8 0])) := by kernel_rfl
theorem scal131 : scalB Try.prog 131 = true := by kernel_rfl
theorem one131 : (Try.prog.info? 131).map (·.size) = some 1 := by kernel_rfl
theorem scal132 : scalB Try.prog 132 = true := by kernel_rfl
theorem one132 : (Try.prog.info? 132).map (·.size) = some 1 := by kernel_rfl
theorem zero132 : (Try.prog.info? 132).map (·.zero) = some (some (.int .u32 0)) := by kernel_rfl
theorem scal133 : scalB Try.prog 133 = true := by kernel_rfl
theorem one133 : (Try.prog.info? 133).map (·.size) = some 1 := by kernel_rfl
theorem scal134 : scalB Try.prog 134 = true := by kernel_rfl
theorem one134 : (Try.prog.info? 134).map (·.size) = some 1 := by kernel_rfl
theorem zero134 : (Try.prog.info? 134).map (·.zero) = some (some (.pointer none)) := by kernel_rfl
theorem scal135 : scalB Try.prog 135 = true := by kernel_rfl
theorem one135 : (Try.prog.info? 135).map (·.size) = some 1 := by kernel_rfl
theorem scal136 : scalB Try.prog 136 = true := by kernel_rfl
theorem one136 : (Try.prog.info? 136).map (·.size) = some 1 := by kernel_rfl
theorem sl136 : SlTy Try.prog 136 22 1 (.slice none 0 0) 24 := .of Try.underlying136 (by kernel_rfl) rfl (by decide)
theorem zero136 : (Try.prog.info? 136).map (·.zero) = some (some (.slice none 0 0)) := by kernel_rfl
theorem scal137 : scalB Try.prog 137 = true := by kernel_rfl
theorem one137 : (Try.prog.info? 137).map (·.size) = some 1 := by kernel_rfl
theorem scal138 : scalB Try.prog 138 = true := by kernel_rfl
theorem one138 : (Try.prog.info? 138).map (·.size) = some 1 := by kernel_rfl
theorem zero138 : (Try.prog.info? 138).map (·.zero) = some (some (.int .u64 0)) := by kernel_rfl
theorem scal139 : scalB Try.prog 139 = true := by kernel_rfl
theorem one139 : (Try.prog.info? 139).map (·.size) = some 1 := by kernel_rfl
theorem scal140 : scalB Try.prog 140 = true := by kernel_rfl
theorem one140 : (Try.prog.info? 140).map (·.size) = some 1 := by kernel_rfl
theorem scal141 : scalB Try.prog 141 = true := by kernel_rfl
theorem one141 : (Try.prog.info? 141).map (·.size) = some 1 := by kernel_rfl
theorem scal142 : scalB Try.prog 142 = true := by kernel_rfl
theorem one142 : (Try.prog.info? 142).map (·.size) = some 1 := by kernel_rfl
theorem scal143 : scalB Try.prog 143 = true := by kernel_rfl
theorem one143 : (Try.prog.info? 143).map (·.size) = some 1 := by kernel_rfl
theorem zero143 : (Try.prog.info? 143).map (·.zero) = some (some (.pointer none)) := by kernel_rfl
theorem scal144 : scalB Try.prog 144 = true := by kernel_rfl
theorem one144 : (Try.prog.info? 144).map (·.size) = some 1 := by kernel_rfl
theorem sl144 : SlTy Try.prog 144 147 4 (.agg #[.int .i32 0, .int .i64 0, .int .i64 0, .bool false]) 32 := .of Try.underlying144 (by kernel_rfl) rfl (by decide)
theorem zero144 : (Try.prog.info? 144).map (·.zero) = some (some (.slice none 0 0)) := by kernel_rfl
theorem scal145 : scalB Try.prog 145 = true := by kernel_rfl
theorem one145 : (Try.prog.info? 145).map (·.size) = some 1 := by kernel_rfl
theorem fld146_0 : fldB Try.prog 146 0 0 = true := by kernel_rfl
theorem fld146_1 : fldB Try.prog 146 1 1 = true := by kernel_rfl
theorem fld146_2 : fldB Try.prog 146 2 2 = true := by kernel_rfl
theorem fld146_3 : fldB Try.prog 146 3 3 = true := by kernel_rfl
theorem bt146 : BuildTy Try.prog 146 [(0, 1), (1, 1), (2, 1), (3, 1)] [.int .i32 0, .int .i64 0, .int .i64 0, .bool false] := ⟨by kernel_rfl, _, Try.underlying146, fun _ => by kernel_rfl⟩
theorem agg146 : aggB Try.prog 146 4 = true := by kernel_rfl
theorem zero146 : (Try.prog.info? 146).map (·.zero) = some (some (.agg #[.int .i32 0, .int .i64 0, .int .i64 0, .bool false])) := by kernel_rfl
theorem fld147_0 : fldB Try.prog 147 0 0 = true := by kernel_rfl
theorem fld147_1 : fldB Try.prog 147 1 1 = true := by kernel_rfl
theorem fld147_2 : fldB Try.prog 147 2 2 = true := by kernel_rfl
theorem fld147_3 : fldB Try.prog 147 3 3 = true := by kernel_rfl
theorem bt147 : BuildTy Try.prog 147 [(0, 1), (1, 1), (2, 1), (3, 1)] [.int .i32 0, .int .i64 0, .int .i64 0, .bool false] := ⟨by kernel_rfl, _, Try.underlying147, fun _ => by kernel_rfl⟩
theorem agg147 : aggB Try.prog 147 4 = true := by kernel_rfl
theorem zero147 : (Try.prog.info? 147).map (·.zero) = some (some (.agg #[.int .i32 0, .int .i64 0, .int .i64 0, .bool false])) := by kernel_rfl
theorem scal148 : scalB Try.prog 148 = true := by kernel_rfl
theorem one148 : (Try.prog.info? 148).map (·.size) = some 1 := by kernel_rfl
theorem fld149_0 : fldB Try.prog 149 0 0 = true := by kernel_rfl
theorem fld149_1 : fldB Try.prog 149 1 1 = true := by kernel_rfl
theorem bt149 : BuildTy Try.prog 149 [(0, 1), (1, 1)] [.slice none 0 0, .bool false] := ⟨by kernel_rfl, _, Try.underlying149, fun _ => by kernel_rfl⟩
theorem agg149 : aggB Try.prog 149 2 = true := by kernel_rfl
theorem zero149 : (Try.prog.info? 149).map (·.zero) = some (some (.agg #[.slice none 0 0, .bool false])) := by kernel_rfl
theorem fld150_0 : fldB Try.prog 150 0 0 = true := by kernel_rfl
theorem fld150_1 : fldB Try.prog 150 1 1 = true := by kernel_rfl
theorem bt150 : BuildTy Try.prog 150 [(0, 1), (1, 1)] [.slice none 0 0, .bool false] := ⟨by kernel_rfl, _, Try.underlying150, fun _ => by kernel_rfl⟩
theorem agg150 : aggB Try.prog 150 2 = true := by kernel_rfl
theorem zero150 : (Try.prog.info? 150).map (·.zero) = some (some (.agg #[.slice none 0 0, .bool false])) := by kernel_rfl
theorem scal151 : scalB Try.prog 151 = true := by kernel_rfl
theorem one151 : (Try.prog.info? 151).map (·.size) = some 1 := by kernel_rfl
theorem scal152 : scalB Try.prog 152 = true := by kernel_rfl
theorem one152 : (Try.prog.info? 152).map (·.size) = some 1 := by kernel_rfl
theorem zero152 : (Try.prog.info? 152).map (·.zero) = some (some (.pointer none)) := by kernel_rfl
theorem scal154 : scalB Try.prog 154 = true := by kernel_rfl
theorem one154 : (Try.prog.info? 154).map (·.size) = some 1 := by kernel_rfl
theorem scal155 : scalB Try.prog 155 = true := by kernel_rfl
theorem one155 : (Try.prog.info? 155).map (·.size) = some 1 := by kernel_rfl
theorem zero155 : (Try.prog.info? 155).map (·.zero) = some (some (.pointer none)) := by kernel_rfl
theorem scal156 : scalB Try.prog 156 = true := by kernel_rfl
theorem one156 : (Try.prog.info? 156).map (·.size) = some 1 := by kernel_rfl
theorem scal158 : scalB Try.prog 158 = true := by kernel_rfl
theorem one158 : (Try.prog.info? 158).map (·.size) = some 1 := by kernel_rfl
theorem scal159 : scalB Try.prog 159 = true := by kernel_rfl
theorem one159 : (Try.prog.info? 159).map (·.size) = some 1 := by kernel_rfl
theorem scal160 : scalB Try.prog 160 = true := by kernel_rfl
theorem one160 : (Try.prog.info? 160).map (·.size) = some 1 := by kernel_rfl
theorem scal161 : scalB Try.prog 161 = true := by kernel_rfl
theorem one161 : (Try.prog.info? 161).map (·.size) = some 1 := by kernel_rfl
theorem sl161 : SlTy Try.prog 161 164 4 (.agg #[.int .i64 0, .int .i64 0, .int .i64 0, .int .i64 0]) 32 := .of Try.underlying161 (by kernel_rfl) rfl (by decide)
theorem zero161 : (Try.prog.info? 161).map (·.zero) = some (some (.slice none 0 0)) := by kernel_rfl
theorem scal162 : scalB Try.prog 162 = true := by kernel_rfl
theorem one162 : (Try.prog.info? 162).map (·.size) = some 1 := by kernel_rfl
theorem fld163_0 : fldB Try.prog 163 0 0 = true := by kernel_rfl
theorem fld163_1 : fldB Try.prog 163 1 1 = true := by kernel_rfl
theorem fld163_2 : fldB Try.prog 163 2 2 = true := by kernel_rfl
theorem fld163_3 : fldB Try.prog 163 3 3 = true := by kernel_rfl
theorem bt163 : BuildTy Try.prog 163 [(0, 1), (1, 1), (2, 1), (3, 1)] [.int .i64 0, .int .i64 0, .int .i64 0, .int .i64 0] := ⟨by kernel_rfl, _, Try.underlying163, fun _ => by kernel_rfl⟩
theorem agg163 : aggB Try.prog 163 4 = true := by kernel_rfl
theorem zero163 : (Try.prog.info? 163).map (·.zero) = some (some (.agg #[.int .i64 0, .int .i64 0, .int .i64 0, .int .i64 0])) := by kernel_rfl
theorem fld164_0 : fldB Try.prog 164 0 0 = true := by kernel_rfl
theorem fld164_1 : fldB Try.prog 164 1 1 = true := by kernel_rfl
theorem fld164_2 : fldB Try.prog 164 2 2 = true := by kernel_rfl
theorem fld164_3 : fldB Try.prog 164 3 3 = true := by kernel_rfl
theorem bt164 : BuildTy Try.prog 164 [(0, 1), (1, 1), (2, 1), (3, 1)] [.int .i64 0, .int .i64 0, .int .i64 0, .int .i64 0] := ⟨by kernel_rfl, _, Try.underlying164, fun _ => by kernel_rfl⟩
theorem agg164 : aggB Try.prog 164 4 = true := by kernel_rfl
theorem zero164 : (Try.prog.info? 164).map (·.zero) = some (some (.agg #[.int .i64 0, .int .i64 0, .int .i64 0, .int .i64 0])) := by kernel_rfl
theorem scal165 : scalB Try.prog 165 = true := by kernel_rfl
theorem one165 : (Try.prog.info? 165).map (·.size) = some 1 := by kernel_rfl
theorem sl165 : SlTy Try.prog 165 161 1 (.slice none 0 0) 24 := .of Try.underlying165 (by kernel_rfl) rfl (by decide)
theorem zero165 : (Try.prog.info? 165).map (·.zero) = some (some (.slice none 0 0)) := by kernel_rfl
theorem scal166 : scalB Try.prog 166 = true := by kernel_rfl
theorem one166 : (Try.prog.info? 166).map (·.size) = some 1 := by kernel_rfl
theorem scal167 : scalB Try.prog 167 = true := by kernel_rfl
theorem one167 : (Try.prog.info? 167).map (·.size) = some 1 := by kernel_rfl
theorem sl167 : SlTy Try.prog 167 108 1 (.int .u64 0) 8 := .of Try.underlying167 (by kernel_rfl) rfl (by decide)
theorem zero167 : (Try.prog.info? 167).map (·.zero) = some (some (.slice none 0 0)) := by kernel_rfl
theorem scal168 : scalB Try.prog 168 = true := by kernel_rfl
theorem one168 : (Try.prog.info? 168).map (·.size) = some 1 := by kernel_rfl
theorem scal169 : scalB Try.prog 169 = true := by kernel_rfl
theorem one169 : (Try.prog.info? 169).map (·.size) = some 1 := by kernel_rfl
theorem zero169 : (Try.prog.info? 169).map (·.zero) = some (some (.pointer none)) := by kernel_rfl
theorem scal170 : scalB Try.prog 170 = true := by kernel_rfl
theorem one170 : (Try.prog.info? 170).map (·.size) = some 1 := by kernel_rfl
theorem scal171 : scalB Try.prog 171 = true := by kernel_rfl
theorem one171 : (Try.prog.info? 171).map (·.size) = some 1 := by kernel_rfl
theorem arr172 : ArrTy Try.prog 172 16 132 1 := ⟨Try.underlying172, by kernel_rfl⟩
theorem bar172 : BuildAr Try.prog 172 16 132 [.int .u32 0, .int .u32 0, .int .u32 0, .int .u32 0, .int .u32 0, .int .u32 0, .int .u32 0, .int .u32 0, .int .u32 0, .int .u32 0, .int .u32 0, .int .u32 0, .int .u32 0, .int .u32 0, .int .u32 0, .int .u32 0] := ⟨by kernel_rfl, Try.underlying172, by kernel_rfl⟩
theorem agg172 : aggB Try.prog 172 16 = true := by kernel_rfl
theorem zero172 : (Try.prog.info? 172).map (·.zero) = some (some (.agg #[.int .u32 0, .int .u32 0, .int .u32 0, .int .u32 0, .int .u32 0, .int .u32 0, .int .u32 0, .int .u32 0, .int .u32 0, .int .u32 0, .int .u32 0, .int .u32 0, .int .u32 0, .int .u32 0, .int .u32 0, .int .u32 0])) := by kernel_rfl
theorem scal173 : scalB Try.prog 173 = true := by kernel_rfl
theorem one173 : (Try.prog.info? 173).map (·.size) = some 1 := by kernel_rfl
theorem scal174 : scalB Try.prog 174 = true := by kernel_rfl
theorem one174 : (Try.prog.info? 174).map (·.size) = some 1 := by kernel_rfl
theorem sl174 : SlTy Try.prog 174 176 3 (.agg #[.int .i64 0, .bool false, .slice none 0 0]) 40 := .of Try.underlying174 (by kernel_rfl) rfl (by decide)
theorem zero174 : (Try.prog.info? 174).map (·.zero) = some (some (.slice none 0 0)) := by kernel_rfl
theorem fld175_0 : fldB Try.prog 175 0 0 = true := by kernel_rfl
theorem fld175_1 : fldB Try.prog 175 1 1 = true := by kernel_rfl
theorem fld175_2 : fldB Try.prog 175 2 2 = true := by kernel_rfl
theorem bt175 : BuildTy Try.prog 175 [(0, 1), (1, 1), (2, 1)] [.int .i64 0, .bool false, .slice none 0 0] := ⟨by kernel_rfl, _, Try.underlying175, fun _ => by kernel_rfl⟩
theorem agg175 : aggB Try.prog 175 3 = true := by kernel_rfl
theorem zero175 : (Try.prog.info? 175).map (·.zero) = some (some (.agg #[.int .i64 0, .bool false, .slice none 0 0])) := by kernel_rfl
theorem fld176_0 : fldB Try.prog 176 0 0 = true := by kernel_rfl
theorem fld176_1 : fldB Try.prog 176 1 1 = true := by kernel_rfl
theorem fld176_2 : fldB Try.prog 176 2 2 = true := by kernel_rfl
theorem bt176 : BuildTy Try.prog 176 [(0, 1), (1, 1), (2, 1)] [.int .i64 0, .bool false, .slice none 0 0] := ⟨by kernel_rfl, _, Try.underlying176, fun _ => by kernel_rfl⟩
theorem agg176 : aggB Try.prog 176 3 = true := by kernel_rfl
theorem zero176 : (Try.prog.info? 176).map (·.zero) = some (some (.agg #[.int .i64 0, .bool false, .slice none 0 0])) := by kernel_rfl
theorem scal177 : scalB Try.prog 177 = true := by kernel_rfl
theorem one177 : (Try.prog.info? 177).map (·.size) = some 1 := by kernel_rfl
theorem scal179 : scalB Try.prog 179 = true := by kernel_rfl
theorem one179 : (Try.prog.info? 179).map (·.size) = some 1 := by kernel_rfl
theorem scal180 : scalB Try.prog 180 = true := by kernel_rfl
theorem one180 : (Try.prog.info? 180).map (·.size) = some 1 := by kernel_rfl
theorem sl180 : SlTy Try.prog 180 4 1 (.bool false) 1 := .of Try.underlying180 (by kernel_rfl) rfl (by decide)
theorem zero180 : (Try.prog.info? 180).map (·.zero) = some (some (.slice none 0 0)) := by kernel_rfl
theorem scal181 : scalB Try.prog 181 = true := by kernel_rfl
theorem one181 : (Try.prog.info? 181).map (·.size) = some 1 := by kernel_rfl
theorem scal182 : scalB Try.prog 182 = true := by kernel_rfl
theorem one182 : (Try.prog.info? 182).map (·.size) = some 1 := by kernel_rfl
theorem scal183 : scalB Try.prog 183 = true := by kernel_rfl
theorem one183 : (Try.prog.info? 183).map (·.size) = some 1 := by kernel_rfl
theorem scal184 : scalB Try.prog 184 = true := by kernel_rfl
theorem one184 : (Try.prog.info? 184).map (·.size) = some 1 := by kernel_rfl
theorem scal185 : scalB Try.prog 185 = true := by kernel_rfl
theorem one185 : (Try.prog.info? 185).map (·.size) = some 1 := by kernel_rfl
theorem scal186 : scalB Try.prog 186 = true := by kernel_rfl
theorem one186 : (Try.prog.info? 186).map (·.size) = some 1 := by kernel_rfl
theorem zero186 : (Try.prog.info? 186).map (·.zero) = some (some (.int .i64 0)) := by kernel_rfl
theorem scal188 : scalB Try.prog 188 = true := by kernel_rfl
theorem one188 : (Try.prog.info? 188).map (·.size) = some 1 := by kernel_rfl
theorem scal189 : scalB Try.prog 189 = true := by kernel_rfl
theorem one189 : (Try.prog.info? 189).map (·.size) = some 1 := by kernel_rfl
theorem scal190 : scalB Try.prog 190 = true := by kernel_rfl
theorem one190 : (Try.prog.info? 190).map (·.size) = some 1 := by kernel_rfl
theorem scal191 : scalB Try.prog 191 = true := by kernel_rfl
theorem one191 : (Try.prog.info? 191).map (·.size) = some 1 := by kernel_rfl
theorem scal192 : scalB Try.prog 192 = true := by kernel_rfl
theorem one192 : (Try.prog.info? 192).map (·.size) = some 1 := by kernel_rfl
theorem scal193 : scalB Try.prog 193 = true := by kernel_rfl
theorem one193 : (Try.prog.info? 193).map (·.size) = some 1 := by kernel_rfl
theorem scal194 : scalB Try.prog 194 = true := by kernel_rfl
theorem one194 : (Try.prog.info? 194).map (·.size) = some 1 := by kernel_rfl
theorem scal195 : scalB Try.prog 195 = true := by kernel_rfl
theorem one195 : (Try.prog.info? 195).map (·.size) = some 1 := by kernel_rfl
theorem scal196 : scalB Try.prog 196 = true := by kernel_rfl
theorem one196 : (Try.prog.info? 196).map (·.size) = some 1 := by kernel_rfl
theorem zero196 : (Try.prog.info? 196).map (·.zero) = some (some (.pointer none)) := by kernel_rfl
theorem scal198 : scalB Try.prog 198 = true := by kernel_rfl
theorem one198 : (Try.prog.info? 198).map (·.size) = some 1 := by kernel_rfl
theorem fld199_0 : fldB Try.prog 199 0 0 = true := by kernel_rfl
theorem fld199_1 : fldB Try.prog 199 1 1 = true := by kernel_rfl
theorem bt199 : BuildTy Try.prog 199 [(0, 1), (1, 1)] [.slice none 0 0, .int .i64 0] := ⟨by kernel_rfl, _, Try.underlying199, fun _ => by kernel_rfl⟩
theorem agg199 : aggB Try.prog 199 2 = true := by kernel_rfl
theorem zero199 : (Try.prog.info? 199).map (·.zero) = some (some (.agg #[.slice none 0 0, .int .i64 0])) := by kernel_rfl
theorem fld200_0 : fldB Try.prog 200 0 0 = true := by kernel_rfl
theorem fld200_1 : fldB Try.prog 200 1 1 = true := by kernel_rfl
theorem bt200 : BuildTy Try.prog 200 [(0, 1), (1, 1)] [.slice none 0 0, .int .i64 0] := ⟨by kernel_rfl, _, Try.underlying200, fun _ => by kernel_rfl⟩
theorem agg200 : aggB Try.prog 200 2 = true := by kernel_rfl
theorem zero200 : (Try.prog.info? 200).map (·.zero) = some (some (.agg #[.slice none 0 0, .int .i64 0])) := by kernel_rfl
theorem fld201_0 : fldB Try.prog 201 0 0 = true := by kernel_rfl
theorem fld201_1 : fldB Try.prog 201 1 2 = true := by kernel_rfl
theorem bt201 : BuildTy Try.prog 201 [(0, 2), (2, 1)] [.slice none 0 0, .int .i64 0, .int .i64 0] := ⟨by kernel_rfl, _, Try.underlying201, fun _ => by kernel_rfl⟩
theorem agg201 : aggB Try.prog 201 3 = true := by kernel_rfl
theorem zero201 : (Try.prog.info? 201).map (·.zero) = some (some (.agg #[.slice none 0 0, .int .i64 0, .int .i64 0])) := by kernel_rfl
theorem fld202_0 : fldB Try.prog 202 0 0 = true := by kernel_rfl
theorem fld202_1 : fldB Try.prog 202 1 2 = true := by kernel_rfl
theorem bt202 : BuildTy Try.prog 202 [(0, 2), (2, 1)] [.slice none 0 0, .int .i64 0, .int .i64 0] := ⟨by kernel_rfl, _, Try.underlying202, fun _ => by kernel_rfl⟩
theorem agg202 : aggB Try.prog 202 3 = true := by kernel_rfl
theorem zero202 : (Try.prog.info? 202).map (·.zero) = some (some (.agg #[.slice none 0 0, .int .i64 0, .int .i64 0])) := by kernel_rfl
theorem arr203 : ArrTy Try.prog 203 16 108 1 := ⟨Try.underlying203, by kernel_rfl⟩
theorem bar203 : BuildAr Try.prog 203 16 108 [.int .u64 0, .int .u64 0, .int .u64 0, .int .u64 0, .int .u64 0, .int .u64 0, .int .u64 0, .int .u64 0, .int .u64 0, .int .u64 0, .int .u64 0, .int .u64 0, .int .u64 0, .int .u64 0, .int .u64 0, .int .u64 0] := ⟨by kernel_rfl, Try.underlying203, by kernel_rfl⟩
theorem agg203 : aggB Try.prog 203 16 = true := by kernel_rfl
theorem zero203 : (Try.prog.info? 203).map (·.zero) = some (some (.agg #[.int .u64 0, .int .u64 0, .int .u64 0, .int .u64 0, .int .u64 0, .int .u64 0, .int .u64 0, .int .u64 0, .int .u64 0, .int .u64 0, .int .u64 0, .int .u64 0, .int .u64 0, .int .u64 0, .int .u64 0, .int .u64 0])) := by kernel_rfl
theorem arr204 : ArrTy Try.prog 204 16 22 1 := ⟨Try.underlying204, by kernel_rfl⟩
theorem bar204 : BuildAr Try.prog 204 16 22 [.slice none 0 0, .slice none 0 0, .slice none 0 0, .slice none 0 0, .slice none 0 0, .slice none 0 0, .slice none 0 0, .slice none 0 0, .slice none 0 0, .slice none 0 0, .slice none 0 0, .slice none 0 0, .slice none 0 0, .slice none 0 0, .slice none 0 0, .slice none 0 0] := ⟨by kernel_rfl, Try.underlying204, by kernel_rfl⟩
theorem agg204 : aggB Try.prog 204 16 = true := by kernel_rfl
theorem zero204 : (Try.prog.info? 204).map (·.zero) = some (some (.agg #[.slice none 0 0, .slice none 0 0, .slice none 0 0, .slice none 0 0, .slice none 0 0, .slice none 0 0, .slice none 0 0, .slice none 0 0, .slice none 0 0, .slice none 0 0, .slice none 0 0, .slice none 0 0, .slice none 0 0, .slice none 0 0, .slice none 0 0, .slice none 0 0])) := by kernel_rfl
theorem fld205_0 : fldB Try.prog 205 0 0 = true := by kernel_rfl
theorem fld205_1 : fldB Try.prog 205 1 16 = true := by kernel_rfl
theorem fld205_2 : fldB Try.prog 205 2 32 = true := by kernel_rfl
theorem bt205 : BuildTy Try.prog 205 [(0, 16), (16, 16), (32, 1)] [.int .u64 0, .int .u64 0, .int .u64 0, .int .u64 0, .int .u64 0, .int .u64 0, .int .u64 0, .int .u64 0, .int .u64 0, .int .u64 0, .int .u64 0, .int .u64 0, .int .u64 0, .int .u64 0, .int .u64 0, .int .u64 0, .slice none 0 0, .slice none 0 0, .slice none 0 0, .slice none 0 0, .slice none 0 0, .slice none 0 0, .slice none 0 0, .slice none 0 0, .slice none 0 0, .slice none 0 0, .slice none 0 0, .slice none 0 0, .slice none 0 0, .slice none 0 0, .slice none 0 0, .slice none 0 0, .int .i64 0] := ⟨by kernel_rfl, _, Try.underlying205, fun _ => by kernel_rfl⟩
theorem agg205 : aggB Try.prog 205 33 = true := by kernel_rfl
theorem zero205 : (Try.prog.info? 205).map (·.zero) = some (some (.agg #[.int .u64 0, .int .u64 0, .int .u64 0, .int .u64 0, .int .u64 0, .int .u64 0, .int .u64 0, .int .u64 0, .int .u64 0, .int .u64 0, .int .u64 0, .int .u64 0, .int .u64 0, .int .u64 0, .int .u64 0, .int .u64 0, .slice none 0 0, .slice none 0 0, .slice none 0 0, .slice none 0 0, .slice none 0 0, .slice none 0 0, .slice none 0 0, .slice none 0 0, .slice none 0 0, .slice none 0 0, .slice none 0 0, .slice none 0 0, .slice none 0 0, .slice none 0 0, .slice none 0 0, .slice none 0 0, .int .i64 0])) := by kernel_rfl
theorem fld206_0 : fldB Try.prog 206 0 0 = true := by kernel_rfl
theorem fld206_1 : fldB Try.prog 206 1 16 = true := by kernel_rfl
theorem fld206_2 : fldB Try.prog 206 2 32 = true := by kernel_rfl
theorem bt206 : BuildTy Try.prog 206 [(0, 16), (16, 16), (32, 1)] [.int .u64 0, .int .u64 0, .int .u64 0, .int .u64 0, .int .u64 0, .int .u64 0, .int .u64 0, .int .u64 0, .int .u64 0, .int .u64 0, .int .u64 0, .int .u64 0, .int .u64 0, .int .u64 0, .int .u64 0, .int .u64 0, .slice none 0 0, .slice none 0 0, .slice none 0 0, .slice none 0 0, .slice none 0 0, .slice none 0 0, .slice none 0 0, .slice none 0 0, .slice none 0 0, .slice none 0 0, .slice none 0 0, .slice none 0 0, .slice none 0 0, .slice none 0 0, .slice none 0 0, .slice none 0 0, .int .i64 0] := ⟨by kernel_rfl, _, Try.underlying206, fun _ => by kernel_rfl⟩
theorem agg206 : aggB Try.prog 206 33 = true := by kernel_rfl
theorem zero206 : (Try.prog.info? 206).map (·.zero) = some (some (.agg #[.int .u64 0, .int .u64 0, .int .u64 0, .int .u64 0, .int .u64 0, .int .u64 0, .int .u64 0, .int .u64 0, .int .u64 0, .int .u64 0, .int .u64 0, .int .u64 0, .int .u64 0, .int .u64 0, .int .u64 0, .int .u64 0, .slice none 0 0, .slice none 0 0, .slice none 0 0, .slice none 0 0, .slice none 0 0, .slice none 0 0, .slice none 0 0, .slice none 0 0, .slice none 0 0, .slice none 0 0, .slice none 0 0, .slice none 0 0, .slice none 0 0, .slice none 0 0, .slice none 0 0, .slice none 0 0, .int .i64 0])) := by kernel_rfl
theorem scal207 : scalB Try.prog 207 = true := by kernel_rfl
theorem one207 : (Try.prog.info? 207).map (·.size) = some 1 := by kernel_rfl
theorem arr208 : ArrTy Try.prog 208 32 3 1 := ⟨Try.underlying208, by kernel_rfl⟩
theorem bar208 : BuildAr Try.prog 208 32 3 [.int .i64 0, .int .i64 0, .int .i64 0, .int .i64 0, .int .i64 0, .int .i64 0, .int .i64 0, .int .i64 0, .int .i64 0, .int .i64 0, .int .i64 0, .int .i64 0, .int .i64 0, .int .i64 0, .int .i64 0, .int .i64 0, .int .i64 0, .int .i64 0, .int .i64 0, .int .i64 0, .int .i64 0, .int .i64 0, .int .i64 0, .int .i64 0, .int .i64 0, .int .i64 0, .int .i64 0, .int .i64 0, .int .i64 0, .int .i64 0, .int .i64 0, .int .i64 0] := ⟨by kernel_rfl, Try.underlying208, by kernel_rfl⟩
theorem agg208 : aggB Try.prog 208 32 = true := by kernel_rfl
theorem zero208 : (Try.prog.info? 208).map (·.zero) = some (some (.agg #[.int .i64 0, .int .i64 0, .int .i64 0, .int .i64 0, .int .i64 0, .int .i64 0, .int .i64 0, .int .i64 0, .int .i64 0, .int .i64 0, .int .i64 0, .int .i64 0, .int .i64 0, .int .i64 0, .int .i64 0, .int .i64 0, .int .i64 0, .int .i64 0, .int .i64 0, .int .i64 0, .int .i64 0, .int .i64 0, .int .i64 0, .int .i64 0, .int .i64 0, .int .i64 0, .int .i64 0, .int .i64 0, .int .i64 0, .int .i64 0, .int .i64 0, .int .i64 0])) := by kernel_rfl
theorem scal209 : scalB Try.prog 209 = true := by kernel_rfl
theorem one209 : (Try.prog.info? 209).map (·.size) = some 1 := by kernel_rfl
theorem scal210 : scalB Try.prog 210 = true := by kernel_rfl
theorem one210 : (Try.prog.info? 210).map (·.size) = some 1 := by kernel_rfl
theorem scal211 : scalB Try.prog 211 = true := by kernel_rfl
theorem one211 : (Try.prog.info? 211).map (·.size) = some 1 := by kernel_rfl
theorem scal212 : scalB Try.prog 212 = true := by kernel_rfl
theorem one212 : (Try.prog.info? 212).map (·.size) = some 1 := by kernel_rfl
theorem fld213_0 : fldB Try.prog 213 0 0 = true := by kernel_rfl
theorem bt213 : BuildTy Try.prog 213 [(0, 2)] [.slice none 0 0, .int .i64 0] := ⟨by kernel_rfl, _, Try.underlying213, fun _ => by kernel_rfl⟩
theorem agg213 : aggB Try.prog 213 2 = true := by kernel_rfl
theorem zero213 : (Try.prog.info? 213).map (·.zero) = some (some (.agg #[.slice none 0 0, .int .i64 0])) := by kernel_rfl
theorem fld214_0 : fldB Try.prog 214 0 0 = true := by kernel_rfl
theorem bt214 : BuildTy Try.prog 214 [(0, 2)] [.slice none 0 0, .int .i64 0] := ⟨by kernel_rfl, _, Try.underlying214, fun _ => by kernel_rfl⟩
theorem agg214 : aggB Try.prog 214 2 = true := by kernel_rfl
theorem zero214 : (Try.prog.info? 214).map (·.zero) = some (some (.agg #[.slice none 0 0, .int .i64 0])) := by kernel_rfl
theorem scal215 : scalB Try.prog 215 = true := by kernel_rfl
theorem one215 : (Try.prog.info? 215).map (·.size) = some 1 := by kernel_rfl
theorem scal216 : scalB Try.prog 216 = true := by kernel_rfl
theorem one216 : (Try.prog.info? 216).map (·.size) = some 1 := by kernel_rfl
theorem zero216 : (Try.prog.info? 216).map (·.zero) = some (some (.int .u64 0)) := by kernel_rfl
theorem scal217 : scalB Try.prog 217 = true := by kernel_rfl
theorem one217 : (Try.prog.info? 217).map (·.size) = some 1 := by kernel_rfl
theorem scal218 : scalB Try.prog 218 = true := by kernel_rfl
theorem one218 : (Try.prog.info? 218).map (·.size) = some 1 := by kernel_rfl
theorem scal219 : scalB Try.prog 219 = true := by kernel_rfl
theorem one219 : (Try.prog.info? 219).map (·.size) = some 1 := by kernel_rfl
theorem scal220 : scalB Try.prog 220 = true := by kernel_rfl
theorem one220 : (Try.prog.info? 220).map (·.size) = some 1 := by kernel_rfl
theorem zero220 : (Try.prog.info? 220).map (·.zero) = some (some (.pointer none)) := by kernel_rfl
theorem scal221 : scalB Try.prog 221 = true := by kernel_rfl
theorem one221 : (Try.prog.info? 221).map (·.size) = some 1 := by kernel_rfl
theorem scal222 : scalB Try.prog 222 = true := by kernel_rfl
theorem one222 : (Try.prog.info? 222).map (·.size) = some 1 := by kernel_rfl
theorem scal223 : scalB Try.prog 223 = true := by kernel_rfl
theorem one223 : (Try.prog.info? 223).map (·.size) = some 1 := by kernel_rfl
theorem scal224 : scalB Try.prog 224 = true := by kernel_rfl
theorem one224 : (Try.prog.info? 224).map (·.size) = some 1 := by kernel_rfl
theorem scal225 : scalB Try.prog 225 = true := by kernel_rfl
theorem one225 : (Try.prog.info? 225).map (·.size) = some 1 := by kernel_rfl
theorem scal227 : scalB Try.prog 227 = true := by kernel_rfl
theorem one227 : (Try.prog.info? 227).map (·.size) = some 1 := by kernel_rfl
theorem scal228 : scalB Try.prog 228 = true := by kernel_rfl
theorem one228 : (Try.prog.info? 228).map (·.size) = some 1 := by kernel_rfl
theorem scal229 : scalB Try.prog 229 = true := by kernel_rfl
theorem one229 : (Try.prog.info? 229).map (·.size) = some 1 := by kernel_rfl
theorem scal230 : scalB Try.prog 230 = true := by kernel_rfl
theorem one230 : (Try.prog.info? 230).map (·.size) = some 1 := by kernel_rfl
theorem zero230 : (Try.prog.info? 230).map (·.zero) = some (some (.pointer none)) := by kernel_rfl
theorem scal231 : scalB Try.prog 231 = true := by kernel_rfl
theorem one231 : (Try.prog.info? 231).map (·.size) = some 1 := by kernel_rfl
theorem zero231 : (Try.prog.info? 231).map (·.zero) = some (some (.pointer none)) := by kernel_rfl
theorem scal232 : scalB Try.prog 232 = true := by kernel_rfl
theorem one232 : (Try.prog.info? 232).map (·.size) = some 1 := by kernel_rfl
theorem scal233 : scalB Try.prog 233 = true := by kernel_rfl
theorem one233 : (Try.prog.info? 233).map (·.size) = some 1 := by kernel_rfl
theorem scal234 : scalB Try.prog 234 = true := by kernel_rfl
theorem one234 : (Try.prog.info? 234).map (·.size) = some 1 := by kernel_rfl
theorem scal235 : scalB Try.prog 235 = true := by kernel_rfl
theorem one235 : (Try.prog.info? 235).map (·.size) = some 1 := by kernel_rfl
theorem scal236 : scalB Try.prog 236 = true := by kernel_rfl
theorem one236 : (Try.prog.info? 236).map (·.size) = some 1 := by kernel_rfl
theorem scal237 : scalB Try.prog 237 = true := by kernel_rfl
theorem one237 : (Try.prog.info? 237).map (·.size) = some 1 := by kernel_rfl
theorem scal238 : scalB Try.prog 238 = true := by kernel_rfl
theorem one238 : (Try.prog.info? 238).map (·.size) = some 1 := by kernel_rfl
theorem scal239 : scalB Try.prog 239 = true := by kernel_rfl
theorem one239 : (Try.prog.info? 239).map (·.size) = some 1 := by kernel_rfl
theorem fld240_0 : fldB Try.prog 240 0 0 = true := by kernel_rfl
theorem fld240_1 : fldB Try.prog 240 1 1 = true := by kernel_rfl
theorem fld240_2 : fldB Try.prog 240 2 2 = true := by kernel_rfl
theorem fld240_3 : fldB Try.prog 240 3 3 = true := by kernel_rfl
theorem bt240 : BuildTy Try.prog 240 [(0, 1), (1, 1), (2, 1), (3, 1)] [.pointer none, .pointer none, .pointer none, .string ByteArray.empty] := ⟨by kernel_rfl, _, Try.underlying240, fun _ => by kernel_rfl⟩
theorem agg240 : aggB Try.prog 240 4 = true := by kernel_rfl
theorem zero240 : (Try.prog.info? 240).map (·.zero) = some (some (.agg #[.pointer none, .pointer none, .pointer none, .string ByteArray.empty])) := by kernel_rfl
theorem fld241_0 : fldB Try.prog 241 0 0 = true := by kernel_rfl
theorem fld241_1 : fldB Try.prog 241 1 1 = true := by kernel_rfl
theorem fld241_2 : fldB Try.prog 241 2 2 = true := by kernel_rfl
theorem fld241_3 : fldB Try.prog 241 3 3 = true := by kernel_rfl
theorem bt241 : BuildTy Try.prog 241 [(0, 1), (1, 1), (2, 1), (3, 1)] [.pointer none, .pointer none, .pointer none, .string ByteArray.empty] := ⟨by kernel_rfl, _, Try.underlying241, fun _ => by kernel_rfl⟩
theorem agg241 : aggB Try.prog 241 4 = true := by kernel_rfl
theorem zero241 : (Try.prog.info? 241).map (·.zero) = some (some (.agg #[.pointer none, .pointer none, .pointer none, .string ByteArray.empty])) := by kernel_rfl
theorem arr242 : ArrTy Try.prog 242 0 16 1 := ⟨Try.underlying242, by kernel_rfl⟩
theorem scal245 : scalB Try.prog 245 = true := by kernel_rfl
theorem one245 : (Try.prog.info? 245).map (·.size) = some 1 := by kernel_rfl
theorem zero245 : (Try.prog.info? 245).map (·.zero) = some (some (.int .u8 0)) := by kernel_rfl
theorem scal246 : scalB Try.prog 246 = true := by kernel_rfl
theorem one246 : (Try.prog.info? 246).map (·.size) = some 1 := by kernel_rfl
theorem zero246 : (Try.prog.info? 246).map (·.zero) = some (some (.int .u8 0)) := by kernel_rfl
theorem scal247 : scalB Try.prog 247 = true := by kernel_rfl
theorem one247 : (Try.prog.info? 247).map (·.size) = some 1 := by kernel_rfl
theorem scal248 : scalB Try.prog 248 = true := by kernel_rfl
theorem one248 : (Try.prog.info? 248).map (·.size) = some 1 := by kernel_rfl
theorem zero248 : (Try.prog.info? 248).map (·.zero) = some (some (.pointer none)) := by kernel_rfl
theorem scal249 : scalB Try.prog 249 = true := by kernel_rfl
theorem one249 : (Try.prog.info? 249).map (·.size) = some 1 := by kernel_rfl
theorem zero249 : (Try.prog.info? 249).map (·.zero) = some (some (.int .i32 0)) := by kernel_rfl
theorem scal250 : scalB Try.prog 250 = true := by kernel_rfl
theorem one250 : (Try.prog.info? 250).map (·.size) = some 1 := by kernel_rfl
theorem zero250 : (Try.prog.info? 250).map (·.zero) = some (some (.int .i32 0)) := by kernel_rfl
theorem fld251_0 : fldB Try.prog 251 0 0 = true := by kernel_rfl
theorem fld251_1 : fldB Try.prog 251 1 1 = true := by kernel_rfl
theorem fld251_2 : fldB Try.prog 251 2 2 = true := by kernel_rfl
theorem fld251_3 : fldB Try.prog 251 3 3 = true := by kernel_rfl
theorem fld251_4 : fldB Try.prog 251 4 4 = true := by kernel_rfl
theorem fld251_5 : fldB Try.prog 251 5 5 = true := by kernel_rfl
theorem fld251_6 : fldB Try.prog 251 6 6 = true := by kernel_rfl
theorem fld251_7 : fldB Try.prog 251 7 7 = true := by kernel_rfl
theorem fld251_8 : fldB Try.prog 251 8 8 = true := by kernel_rfl
theorem fld251_9 : fldB Try.prog 251 9 9 = true := by kernel_rfl
theorem fld251_10 : fldB Try.prog 251 10 10 = true := by kernel_rfl
theorem agg251 : aggB Try.prog 251 11 = true := by kernel_rfl
theorem zero251 : (Try.prog.info? 251).map (·.zero) = some (some (.agg #[.int .u64 0, .int .u64 0, .int .u32 0, .int .u8 0, .int .u8 0, .int .u8 0, .int .u8 0, .nilFunc, .pointer none, .int .i32 0, .int .i32 0])) := by kernel_rfl
theorem fld252_0 : fldB Try.prog 252 0 0 = true := by kernel_rfl
theorem fld252_1 : fldB Try.prog 252 1 1 = true := by kernel_rfl
theorem fld252_2 : fldB Try.prog 252 2 2 = true := by kernel_rfl
theorem fld252_3 : fldB Try.prog 252 3 3 = true := by kernel_rfl
theorem fld252_4 : fldB Try.prog 252 4 4 = true := by kernel_rfl
theorem fld252_5 : fldB Try.prog 252 5 5 = true := by kernel_rfl
theorem fld252_6 : fldB Try.prog 252 6 6 = true := by kernel_rfl
theorem fld252_7 : fldB Try.prog 252 7 7 = true := by kernel_rfl
theorem fld252_8 : fldB Try.prog 252 8 8 = true := by kernel_rfl
theorem fld252_9 : fldB Try.prog 252 9 9 = true := by kernel_rfl
theorem fld252_10 : fldB Try.prog 252 10 10 = true := by kernel_rfl
theorem agg252 : aggB Try.prog 252 11 = true := by kernel_rfl
theorem zero252 : (Try.prog.info? 252).map (·.zero) = some (some (.agg #[.int .u64 0, .int .u64 0, .int .u32 0, .int .u8 0, .int .u8 0, .int .u8 0, .int .u8 0, .nilFunc, .pointer none, .int .i32 0, .int .i32 0])) := by kernel_rfl
theorem scal253 : scalB Try.prog 253 = true := by kernel_rfl
theorem one253 : (Try.prog.info? 253).map (·.size) = some 1 := by kernel_rfl
theorem ent2 : Enters Try.prog 2 := .of Try.func2 rfl (by kernel_rfl)
theorem ent3 : Enters Try.prog 3 := .of Try.func3 rfl (by kernel_rfl)
theorem ent4 : Enters Try.prog 4 := .of Try.func4 rfl (by kernel_rfl)
theorem ent5 : Enters Try.prog 5 := .of Try.func5 rfl (by kernel_rfl)
theorem ent6 : Enters Try.prog 6 := .of Try.func6 rfl (by kernel_rfl)
theorem ent7 : Enters Try.prog 7 := .of Try.func7 rfl (by kernel_rfl)
theorem ent8 : Enters Try.prog 8 := .of Try.func8 rfl (by kernel_rfl)
theorem ent9 : Enters Try.prog 9 := .of Try.func9 rfl (by kernel_rfl)
theorem ent10 : Enters Try.prog 10 := .of Try.func10 rfl (by kernel_rfl)
theorem ent11 : Enters Try.prog 11 := .of Try.func11 rfl (by kernel_rfl)
theorem ent12 : Enters Try.prog 12 := .of Try.func12 rfl (by kernel_rfl)
theorem ent13 : Enters Try.prog 13 := .of Try.func13 rfl (by kernel_rfl)
theorem ent14 : Enters Try.prog 14 := .of Try.func14 rfl (by kernel_rfl)
theorem ent15 : Enters Try.prog 15 := .of Try.func15 rfl (by kernel_rfl)
theorem ent16 : Enters Try.prog 16 := .of Try.func16 rfl (by kernel_rfl)
theorem ent17 : Enters Try.prog 17 := .of Try.func17 rfl (by kernel_rfl)
theorem ent18 : Enters Try.prog 18 := .of Try.func18 rfl (by kernel_rfl)
theorem ent19 : Enters Try.prog 19 := .of Try.func19 rfl (by kernel_rfl)
theorem ent20 : Enters Try.prog 20 := .of Try.func20 rfl (by kernel_rfl)
theorem ent21 : Enters Try.prog 21 := .of Try.func21 rfl (by kernel_rfl)
theorem ent22 : Enters Try.prog 22 := .of Try.func22 rfl (by kernel_rfl)
theorem ent23 : Enters Try.prog 23 := .of Try.func23 rfl (by kernel_rfl)
theorem ent24 : Enters Try.prog 24 := .of Try.func24 rfl (by kernel_rfl)
theorem ent25 : Enters Try.prog 25 := .of Try.func25 rfl (by kernel_rfl)
theorem ent26 : Enters Try.prog 26 := .of Try.func26 rfl (by kernel_rfl)
theorem ent27 : Enters Try.prog 27 := .of Try.func27 rfl (by kernel_rfl)
theorem ent28 : Enters Try.prog 28 := .of Try.func28 rfl (by kernel_rfl)
theorem ent29 : Enters Try.prog 29 := .of Try.func29 rfl (by kernel_rfl)
theorem ent30 : Enters Try.prog 30 := .of Try.func30 rfl (by kernel_rfl)
theorem ent31 : Enters Try.prog 31 := .of Try.func31 rfl (by kernel_rfl)
theorem ent32 : Enters Try.prog 32 := .of Try.func32 rfl (by kernel_rfl)
theorem ent33 : Enters Try.prog 33 := .of Try.func33 rfl (by kernel_rfl)
theorem ent34 : Enters Try.prog 34 := .of Try.func34 rfl (by kernel_rfl)
theorem ent35 : Enters Try.prog 35 := .of Try.func35 rfl (by kernel_rfl)
theorem ent36 : Enters Try.prog 36 := .of Try.func36 rfl (by kernel_rfl)
theorem ent37 : Enters Try.prog 37 := .of Try.func37 rfl (by kernel_rfl)
theorem ent38 : Enters Try.prog 38 := .of Try.func38 rfl (by kernel_rfl)
theorem ent39 : Enters Try.prog 39 := .of Try.func39 rfl (by kernel_rfl)
theorem ent40 : Enters Try.prog 40 := .of Try.func40 rfl (by kernel_rfl)
theorem ent41 : Enters Try.prog 41 := .of Try.func41 rfl (by kernel_rfl)
theorem ent42 : Enters Try.prog 42 := .of Try.func42 rfl (by kernel_rfl)
theorem ent43 : Enters Try.prog 43 := .of Try.func43 rfl (by kernel_rfl)
theorem ent44 : Enters Try.prog 44 := .of Try.func44 rfl (by kernel_rfl)
theorem ent45 : Enters Try.prog 45 := .of Try.func45 rfl (by kernel_rfl)
theorem ent46 : Enters Try.prog 46 := .of Try.func46 rfl (by kernel_rfl)
theorem ent47 : Enters Try.prog 47 := .of Try.func47 rfl (by kernel_rfl)
theorem ent48 : Enters Try.prog 48 := .of Try.func48 rfl (by kernel_rfl)
theorem ent49 : Enters Try.prog 49 := .of Try.func49 rfl (by kernel_rfl)
theorem ent50 : Enters Try.prog 50 := .of Try.func50 rfl (by kernel_rfl)
theorem ent51 : Enters Try.prog 51 := .of Try.func51 rfl (by kernel_rfl)
theorem ent52 : Enters Try.prog 52 := .of Try.func52 rfl (by kernel_rfl)
theorem ent53 : Enters Try.prog 53 := .of Try.func53 rfl (by kernel_rfl)
theorem ent54 : Enters Try.prog 54 := .of Try.func54 rfl (by kernel_rfl)
theorem ent55 : Enters Try.prog 55 := .of Try.func55 rfl (by kernel_rfl)
theorem ent56 : Enters Try.prog 56 := .of Try.func56 rfl (by kernel_rfl)
theorem ent57 : Enters Try.prog 57 := .of Try.func57 rfl (by kernel_rfl)
theorem ent58 : Enters Try.prog 58 := .of Try.func58 rfl (by kernel_rfl)
theorem ent59 : Enters Try.prog 59 := .of Try.func59 rfl (by kernel_rfl)
theorem ent60 : Enters Try.prog 60 := .of Try.func60 rfl (by kernel_rfl)
theorem ent61 : Enters Try.prog 61 := .of Try.func61 rfl (by kernel_rfl)
theorem ent62 : Enters Try.prog 62 := .of Try.func62 rfl (by kernel_rfl)
theorem ent63 : Enters Try.prog 63 := .of Try.func63 rfl (by kernel_rfl)
theorem ent64 : Enters Try.prog 64 := .of Try.func64 rfl (by kernel_rfl)
theorem ent65 : Enters Try.prog 65 := .of Try.func65 rfl (by kernel_rfl)
theorem ent66 : Enters Try.prog 66 := .of Try.func66 rfl (by kernel_rfl)
theorem ent67 : Enters Try.prog 67 := .of Try.func67 rfl (by kernel_rfl)
theorem ent68 : Enters Try.prog 68 := .of Try.func68 rfl (by kernel_rfl)
theorem ent69 : Enters Try.prog 69 := .of Try.func69 rfl (by kernel_rfl)
theorem ent70 : Enters Try.prog 70 := .of Try.func70 rfl (by kernel_rfl)
theorem ent71 : Enters Try.prog 71 := .of Try.func71 rfl (by kernel_rfl)
theorem ent72 : Enters Try.prog 72 := .of Try.func72 rfl (by kernel_rfl)
theorem ent73 : Enters Try.prog 73 := .of Try.func73 rfl (by kernel_rfl)
theorem ent74 : Enters Try.prog 74 := .of Try.func74 rfl (by kernel_rfl)
theorem ent75 : Enters Try.prog 75 := .of Try.func75 rfl (by kernel_rfl)
theorem ent76 : Enters Try.prog 76 := .of Try.func76 rfl (by kernel_rfl)
theorem ent77 : Enters Try.prog 77 := .of Try.func77 rfl (by kernel_rfl)
theorem ent78 : Enters Try.prog 78 := .of Try.func78 rfl (by kernel_rfl)
theorem ent79 : Enters Try.prog 79 := .of Try.func79 rfl (by kernel_rfl)
theorem ent80 : Enters Try.prog 80 := .of Try.func80 rfl (by kernel_rfl)
theorem ent81 : Enters Try.prog 81 := .of Try.func81 rfl (by kernel_rfl)
theorem ent82 : Enters Try.prog 82 := .of Try.func82 rfl (by kernel_rfl)
theorem ent83 : Enters Try.prog 83 := .of Try.func83 rfl (by kernel_rfl)
theorem ent84 : Enters Try.prog 84 := .of Try.func84 rfl (by kernel_rfl)
theorem ent85 : Enters Try.prog 85 := .of Try.func85 rfl (by kernel_rfl)
theorem ent86 : Enters Try.prog 86 := .of Try.func86 rfl (by kernel_rfl)
theorem ent87 : Enters Try.prog 87 := .of Try.func87 rfl (by kernel_rfl)
theorem ent88 : Enters Try.prog 88 := .of Try.func88 rfl (by kernel_rfl)
theorem ent89 : Enters Try.prog 89 := .of Try.func89 rfl (by kernel_rfl)
theorem ent90 : Enters Try.prog 90 := .of Try.func90 rfl (by kernel_rfl)
theorem ent91 : Enters Try.prog 91 := .of Try.func91 rfl (by kernel_rfl)
theorem ent92 : Enters Try.prog 92 := .of Try.func92 rfl (by kernel_rfl)
theorem ent93 : Enters Try.prog 93 := .of Try.func93 rfl (by kernel_rfl)
theorem ent94 : Enters Try.prog 94 := .of Try.func94 rfl (by kernel_rfl)
theorem ent95 : Enters Try.prog 95 := .of Try.func95 rfl (by kernel_rfl)
theorem ent96 : Enters Try.prog 96 := .of Try.func96 rfl (by kernel_rfl)
theorem ent97 : Enters Try.prog 97 := .of Try.func97 rfl (by kernel_rfl)
theorem ent98 : Enters Try.prog 98 := .of Try.func98 rfl (by kernel_rfl)
theorem ent99 : Enters Try.prog 99 := .of Try.func99 rfl (by kernel_rfl)
theorem ent100 : Enters Try.prog 100 := .of Try.func100 rfl (by kernel_rfl)
theorem ent101 : Enters Try.prog 101 := .of Try.func101 rfl (by kernel_rfl)
theorem ent102 : Enters Try.prog 102 := .of Try.func102 rfl (by kernel_rfl)
theorem ent103 : Enters Try.prog 103 := .of Try.func103 rfl (by kernel_rfl)
theorem ent104 : Enters Try.prog 104 := .of Try.func104 rfl (by kernel_rfl)
theorem ent105 : Enters Try.prog 105 := .of Try.func105 rfl (by kernel_rfl)
theorem ent106 : Enters Try.prog 106 := .of Try.func106 rfl (by kernel_rfl)
theorem ent107 : Enters Try.prog 107 := .of Try.func107 rfl (by kernel_rfl)
theorem ent108 : Enters Try.prog 108 := .of Try.func108 rfl (by kernel_rfl)
theorem ent109 : Enters Try.prog 109 := .of Try.func109 rfl (by kernel_rfl)
theorem ent110 : Enters Try.prog 110 := .of Try.func110 rfl (by kernel_rfl)
theorem ent111 : Enters Try.prog 111 := .of Try.func111 rfl (by kernel_rfl)
theorem ent112 : Enters Try.prog 112 := .of Try.func112 rfl (by kernel_rfl)
theorem ent113 : Enters Try.prog 113 := .of Try.func113 rfl (by kernel_rfl)
theorem ent114 : Enters Try.prog 114 := .of Try.func114 rfl (by kernel_rfl)
theorem ent115 : Enters Try.prog 115 := .of Try.func115 rfl (by kernel_rfl)
theorem ent116 : Enters Try.prog 116 := .of Try.func116 rfl (by kernel_rfl)
theorem ent117 : Enters Try.prog 117 := .of Try.func117 rfl (by kernel_rfl)
theorem ent118 : Enters Try.prog 118 := .of Try.func118 rfl (by kernel_rfl)
theorem ent119 : Enters Try.prog 119 := .of Try.func119 rfl (by kernel_rfl)
theorem ent120 : Enters Try.prog 120 := .of Try.func120 rfl (by kernel_rfl)
theorem ent121 : Enters Try.prog 121 := .of Try.func121 rfl (by kernel_rfl)
theorem ent122 : Enters Try.prog 122 := .of Try.func122 rfl (by kernel_rfl)
theorem ent123 : Enters Try.prog 123 := .of Try.func123 rfl (by kernel_rfl)
theorem ent124 : Enters Try.prog 124 := .of Try.func124 rfl (by kernel_rfl)
theorem ent125 : Enters Try.prog 125 := .of Try.func125 rfl (by kernel_rfl)
theorem ent126 : Enters Try.prog 126 := .of Try.func126 rfl (by kernel_rfl)
theorem ent127 : Enters Try.prog 127 := .of Try.func127 rfl (by kernel_rfl)
theorem ent128 : Enters Try.prog 128 := .of Try.func128 rfl (by kernel_rfl)
theorem ent129 : Enters Try.prog 129 := .of Try.func129 rfl (by kernel_rfl)
theorem ent130 : Enters Try.prog 130 := .of Try.func130 rfl (by kernel_rfl)
theorem ent131 : Enters Try.prog 131 := .of Try.func131 rfl (by kernel_rfl)
theorem ent132 : Enters Try.prog 132 := .of Try.func132 rfl (by kernel_rfl)
theorem ent133 : Enters Try.prog 133 := .of Try.func133 rfl (by kernel_rfl)
theorem ent134 : Enters Try.prog 134 := .of Try.func134 rfl (by kernel_rfl)
theorem ent135 : Enters Try.prog 135 := .of Try.func135 rfl (by kernel_rfl)
theorem ent136 : Enters Try.prog 136 := .of Try.func136 rfl (by kernel_rfl)
theorem ent137 : Enters Try.prog 137 := .of Try.func137 rfl (by kernel_rfl)
theorem ent138 : Enters Try.prog 138 := .of Try.func138 rfl (by kernel_rfl)
theorem ent139 : Enters Try.prog 139 := .of Try.func139 rfl (by kernel_rfl)
theorem ent140 : Enters Try.prog 140 := .of Try.func140 rfl (by kernel_rfl)
theorem ent141 : Enters Try.prog 141 := .of Try.func141 rfl (by kernel_rfl)
theorem ent142 : Enters Try.prog 142 := .of Try.func142 rfl (by kernel_rfl)
theorem ent143 : Enters Try.prog 143 := .of Try.func143 rfl (by kernel_rfl)
theorem ent144 : Enters Try.prog 144 := .of Try.func144 rfl (by kernel_rfl)
theorem ent145 : Enters Try.prog 145 := .of Try.func145 rfl (by kernel_rfl)
theorem ent146 : Enters Try.prog 146 := .of Try.func146 rfl (by kernel_rfl)
theorem ent147 : Enters Try.prog 147 := .of Try.func147 rfl (by kernel_rfl)
theorem ent148 : Enters Try.prog 148 := .of Try.func148 rfl (by kernel_rfl)
theorem ent149 : Enters Try.prog 149 := .of Try.func149 rfl (by kernel_rfl)
theorem ent150 : Enters Try.prog 150 := .of Try.func150 rfl (by kernel_rfl)
theorem ent151 : Enters Try.prog 151 := .of Try.func151 rfl (by kernel_rfl)
theorem ent152 : Enters Try.prog 152 := .of Try.func152 rfl (by kernel_rfl)
theorem ent153 : Enters Try.prog 153 := .of Try.func153 rfl (by kernel_rfl)
theorem ent154 : Enters Try.prog 154 := .of Try.func154 rfl (by kernel_rfl)
theorem ent155 : Enters Try.prog 155 := .of Try.func155 rfl (by kernel_rfl)
theorem ent156 : Enters Try.prog 156 := .of Try.func156 rfl (by kernel_rfl)
theorem ent157 : Enters Try.prog 157 := .of Try.func157 rfl (by kernel_rfl)
theorem ent158 : Enters Try.prog 158 := .of Try.func158 rfl (by kernel_rfl)
theorem ent159 : Enters Try.prog 159 := .of Try.func159 rfl (by kernel_rfl)
theorem ent160 : Enters Try.prog 160 := .of Try.func160 rfl (by kernel_rfl)
theorem ent161 : Enters Try.prog 161 := .of Try.func161 rfl (by kernel_rfl)
theorem ent162 : Enters Try.prog 162 := .of Try.func162 rfl (by kernel_rfl)
theorem ent163 : Enters Try.prog 163 := .of Try.func163 rfl (by kernel_rfl)
theorem ent164 : Enters Try.prog 164 := .of Try.func164 rfl (by kernel_rfl)
theorem ent165 : Enters Try.prog 165 := .of Try.func165 rfl (by kernel_rfl)
theorem ent166 : Enters Try.prog 166 := .of Try.func166 rfl (by kernel_rfl)
theorem ent167 : Enters Try.prog 167 := .of Try.func167 rfl (by kernel_rfl)
theorem ent168 : Enters Try.prog 168 := .of Try.func168 rfl (by kernel_rfl)
theorem ent169 : Enters Try.prog 169 := .of Try.func169 rfl (by kernel_rfl)
theorem ent170 : Enters Try.prog 170 := .of Try.func170 rfl (by kernel_rfl)
theorem ent171 : Enters Try.prog 171 := .of Try.func171 rfl (by kernel_rfl)
theorem ent172 : Enters Try.prog 172 := .of Try.func172 rfl (by kernel_rfl)
theorem ent173 : Enters Try.prog 173 := .of Try.func173 rfl (by kernel_rfl)
theorem ent174 : Enters Try.prog 174 := .of Try.func174 rfl (by kernel_rfl)
theorem ent175 : Enters Try.prog 175 := .of Try.func175 rfl (by kernel_rfl)
theorem ent176 : Enters Try.prog 176 := .of Try.func176 rfl (by kernel_rfl)
theorem ent177 : Enters Try.prog 177 := .of Try.func177 rfl (by kernel_rfl)
theorem ent178 : Enters Try.prog 178 := .of Try.func178 rfl (by kernel_rfl)
theorem ent179 : Enters Try.prog 179 := .of Try.func179 rfl (by kernel_rfl)
theorem ent180 : Enters Try.prog 180 := .of Try.func180 rfl (by kernel_rfl)
theorem ent181 : Enters Try.prog 181 := .of Try.func181 rfl (by kernel_rfl)
theorem ent182 : Enters Try.prog 182 := .of Try.func182 rfl (by kernel_rfl)
theorem ent183 : Enters Try.prog 183 := .of Try.func183 rfl (by kernel_rfl)
theorem ent184 : Enters Try.prog 184 := .of Try.func184 rfl (by kernel_rfl)
theorem ent185 : Enters Try.prog 185 := .of Try.func185 rfl (by kernel_rfl)
theorem ent186 : Enters Try.prog 186 := .of Try.func186 rfl (by kernel_rfl)
theorem ent187 : Enters Try.prog 187 := .of Try.func187 rfl (by kernel_rfl)
theorem ent188 : Enters Try.prog 188 := .of Try.func188 rfl (by kernel_rfl)
theorem ent189 : Enters Try.prog 189 := .of Try.func189 rfl (by kernel_rfl)
theorem ent190 : Enters Try.prog 190 := .of Try.func190 rfl (by kernel_rfl)
theorem ent191 : Enters Try.prog 191 := .of Try.func191 rfl (by kernel_rfl)
theorem ent193 : Enters Try.prog 193 := .of Try.func193 rfl (by kernel_rfl)
theorem ent194 : Enters Try.prog 194 := .of Try.func194 rfl (by kernel_rfl)
theorem ent195 : Enters Try.prog 195 := .of Try.func195 rfl (by kernel_rfl)
theorem ent196 : Enters Try.prog 196 := .of Try.func196 rfl (by kernel_rfl)
theorem ent197 : Enters Try.prog 197 := .of Try.func197 rfl (by kernel_rfl)
theorem ent198 : Enters Try.prog 198 := .of Try.func198 rfl (by kernel_rfl)
theorem ent199 : Enters Try.prog 199 := .of Try.func199 rfl (by kernel_rfl)
theorem ent200 : Enters Try.prog 200 := .of Try.func200 rfl (by kernel_rfl)
theorem ent201 : Enters Try.prog 201 := .of Try.func201 rfl (by kernel_rfl)
theorem ent202 : Enters Try.prog 202 := .of Try.func202 rfl (by kernel_rfl)
theorem ent203 : Enters Try.prog 203 := .of Try.func203 rfl (by kernel_rfl)
theorem ent204 : Enters Try.prog 204 := .of Try.func204 rfl (by kernel_rfl)
theorem ent205 : Enters Try.prog 205 := .of Try.func205 rfl (by kernel_rfl)
theorem ent206 : Enters Try.prog 206 := .of Try.func206 rfl (by kernel_rfl)
theorem ent207 : Enters Try.prog 207 := .of Try.func207 rfl (by kernel_rfl)
theorem ent208 : Enters Try.prog 208 := .of Try.func208 rfl (by kernel_rfl)
theorem ent209 : Enters Try.prog 209 := .of Try.func209 rfl (by kernel_rfl)
theorem mixed : Try.prog.follows .mixedOrders = true := by kernel_rfl
end Go.Proofs.Ytfhbflhnelbkfaa
