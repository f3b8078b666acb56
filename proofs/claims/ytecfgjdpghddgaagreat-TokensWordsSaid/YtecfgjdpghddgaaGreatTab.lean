/-
  TABLES: closed facts on the types and functions of this seat (printed by our own program gtypes.py).
-/
import Derived.Test.YtecfgjdpghddgaaGreatKp
import Derived.Test.YtecfgjdpghddgaaGreatRows
set_option linter.unusedVariables false
set_option linter.unusedSimpArgs false
set_option linter.unusedSectionVars false
namespace Go.Proofs.YtecfgjdpghddgaaGreat
open Go.RowKit Go.Kw
set_option maxRecDepth 100000
theorem scal3 : scalB Tryz.prog 3 = true := by kernel_rfl
theorem one3 : (Tryz.prog.info? 3).map (·.size) = some 1 := by kernel_rfl
theorem scal4 : scalB Tryz.prog 4 = true := by kernel_rfl
theorem one4 : (Tryz.prog.info? 4).map (·.size) = some 1 := by kernel_rfl
theorem zero4 : (Tryz.prog.info? 4).map (·.zero) = some (some (.bool false)) := by kernel_rfl
theorem scal5 : scalB Tryz.prog 5 = true := by kernel_rfl
theorem one5 : (Tryz.prog.info? 5).map (·.size) = some 1 := by kernel_rfl
theorem scal9 : scalB Tryz.prog 9 = true := by kernel_rfl
theorem one9 : (Tryz.prog.info? 9).map (·.size) = some 1 := by kernel_rfl
theorem scal21 : scalB Tryz.prog 21 = true := by kernel_rfl
theorem scal22 : scalB Tryz.prog 22 = true := by kernel_rfl
theorem one22 : (Tryz.prog.info? 22).map (·.size) = some 1 := by kernel_rfl
theorem sl22 : SlTy Tryz.prog 22 5 1 (.int .u8 0) 1 := .of Tryz.underlying22 (by kernel_rfl) rfl (by decide)
theorem scal27 : scalB Tryz.prog 27 = true := by kernel_rfl
theorem one27 : (Tryz.prog.info? 27).map (·.size) = some 1 := by kernel_rfl
theorem sl27 : SlTy Tryz.prog 27 3 1 (.int .i64 0) 8 := .of Tryz.underlying27 (by kernel_rfl) rfl (by decide)
theorem scal36 : scalB Tryz.prog 36 = true := by kernel_rfl
theorem one36 : (Tryz.prog.info? 36).map (·.size) = some 1 := by kernel_rfl
theorem sl36 : SlTy Tryz.prog 36 9 1 (.string ByteArray.empty) 16 := .of Tryz.underlying36 (by kernel_rfl) rfl (by decide)
theorem zero36 : (Tryz.prog.info? 36).map (·.zero) = some (some (.slice none 0 0)) := by kernel_rfl
theorem scal37 : scalB Tryz.prog 37 = true := by kernel_rfl
theorem fld51_0 : fldB Tryz.prog 51 0 0 = true := by kernel_rfl
theorem fld51_1 : fldB Tryz.prog 51 1 1 = true := by kernel_rfl
theorem bt51 : BuildTy Tryz.prog 51 [(0, 1), (1, 1)] [.slice none 0 0, .bool false] := ⟨by kernel_rfl, _, Tryz.underlying51, fun _ => by kernel_rfl⟩
theorem agg51 : aggB Tryz.prog 51 2 = true := by kernel_rfl
theorem zero51 : (Tryz.prog.info? 51).map (·.zero) = some (some (.agg #[.slice none 0 0, .bool false])) := by kernel_rfl
theorem scal56 : scalB Tryz.prog 56 = true := by kernel_rfl
theorem one56 : (Tryz.prog.info? 56).map (·.size) = some 1 := by kernel_rfl
theorem scal63 : scalB Tryz.prog 63 = true := by kernel_rfl
theorem one63 : (Tryz.prog.info? 63).map (·.size) = some 1 := by kernel_rfl
theorem sl63 : SlTy Tryz.prog 63 97 2 (.agg #[.slice none 0 0, .int .i64 0]) 32 := .of Tryz.underlying63 (by kernel_rfl) rfl (by decide)
theorem fld65_0 : fldB Tryz.prog 65 0 0 = true := by kernel_rfl
theorem fld65_1 : fldB Tryz.prog 65 1 1 = true := by kernel_rfl
theorem fld65_2 : fldB Tryz.prog 65 2 2 = true := by kernel_rfl
theorem fld65_3 : fldB Tryz.prog 65 3 3 = true := by kernel_rfl
theorem fld65_4 : fldB Tryz.prog 65 4 4 = true := by kernel_rfl
theorem fld65_5 : fldB Tryz.prog 65 5 5 = true := by kernel_rfl
theorem bt65 : BuildTy Tryz.prog 65 [(0, 1), (1, 1), (2, 1), (3, 1), (4, 1), (5, 1)] [.int .i64 0, .int .i64 0, .slice none 0 0, .slice none 0 0, .int .i64 0, .slice none 0 0] := ⟨by kernel_rfl, _, Tryz.underlying65, fun _ => by kernel_rfl⟩
theorem agg65 : aggB Tryz.prog 65 6 = true := by kernel_rfl
theorem zero65 : (Tryz.prog.info? 65).map (·.zero) = some (some (.agg #[.int .i64 0, .int .i64 0, .slice none 0 0, .slice none 0 0, .int .i64 0, .slice none 0 0])) := by kernel_rfl
theorem fld71_0 : fldB Tryz.prog 71 0 0 = true := by kernel_rfl
theorem fld71_1 : fldB Tryz.prog 71 1 1 = true := by kernel_rfl
theorem fld71_2 : fldB Tryz.prog 71 2 2 = true := by kernel_rfl
theorem bt71 : BuildTy Tryz.prog 71 [(0, 1), (1, 1), (2, 1)] [.slice none 0 0, .slice none 0 0, .slice none 0 0] := ⟨by kernel_rfl, _, Tryz.underlying71, fun _ => by kernel_rfl⟩
theorem fld76_0 : fldB Tryz.prog 76 0 0 = true := by kernel_rfl
theorem fld76_1 : fldB Tryz.prog 76 1 1 = true := by kernel_rfl
theorem bt76 : BuildTy Tryz.prog 76 [(0, 1), (1, 1)] [.slice none 0 0, .bool false] := ⟨by kernel_rfl, _, Tryz.underlying76, fun _ => by kernel_rfl⟩
theorem agg76 : aggB Tryz.prog 76 2 = true := by kernel_rfl
theorem zero76 : (Tryz.prog.info? 76).map (·.zero) = some (some (.agg #[.slice none 0 0, .bool false])) := by kernel_rfl
theorem arr81 : ArrTy Tryz.prog 81 4 5 1 := ⟨Tryz.underlying81, by kernel_rfl⟩
theorem bar81 : BuildAr Tryz.prog 81 4 5 [.int .u8 0, .int .u8 0, .int .u8 0, .int .u8 0] := ⟨by kernel_rfl, Tryz.underlying81, by kernel_rfl⟩
theorem agg81 : aggB Tryz.prog 81 4 = true := by kernel_rfl
theorem zero81 : (Tryz.prog.info? 81).map (·.zero) = some (some (.agg #[.int .u8 0, .int .u8 0, .int .u8 0, .int .u8 0])) := by kernel_rfl
theorem scal83 : scalB Tryz.prog 83 = true := by kernel_rfl
theorem one83 : (Tryz.prog.info? 83).map (·.size) = some 1 := by kernel_rfl
theorem sl92 : SlTy Tryz.prog 92 56 1 (.int .u64 0) 8 := .of Tryz.underlying92 (by kernel_rfl) rfl (by decide)
theorem fld97_0 : fldB Tryz.prog 97 0 0 = true := by kernel_rfl
theorem fld97_1 : fldB Tryz.prog 97 1 1 = true := by kernel_rfl
theorem bt97 : BuildTy Tryz.prog 97 [(0, 1), (1, 1)] [.slice none 0 0, .int .i64 0] := ⟨by kernel_rfl, _, Tryz.underlying97, fun _ => by kernel_rfl⟩
theorem agg97 : aggB Tryz.prog 97 2 = true := by kernel_rfl
theorem zero97 : (Tryz.prog.info? 97).map (·.zero) = some (some (.agg #[.slice none 0 0, .int .i64 0])) := by kernel_rfl
theorem fld101_0 : fldB Tryz.prog 101 0 0 = true := by kernel_rfl
theorem fld101_1 : fldB Tryz.prog 101 1 1 = true := by kernel_rfl
theorem fld101_2 : fldB Tryz.prog 101 2 2 = true := by kernel_rfl
theorem bt101 : BuildTy Tryz.prog 101 [(0, 1), (1, 1), (2, 1)] [.int .i32 0, .int .i64 0, .int .i64 0] := ⟨by kernel_rfl, _, Tryz.underlying101, fun _ => by kernel_rfl⟩
theorem agg101 : aggB Tryz.prog 101 3 = true := by kernel_rfl
theorem zero101 : (Tryz.prog.info? 101).map (·.zero) = some (some (.agg #[.int .i32 0, .int .i64 0, .int .i64 0])) := by kernel_rfl
theorem arr114 : ArrTy Tryz.prog 114 16 83 1 := ⟨Tryz.underlying114, by kernel_rfl⟩
theorem zero114 : (Tryz.prog.info? 114).map (·.zero) = some (some (.agg #[.int .u32 0, .int .u32 0, .int .u32 0, .int .u32 0, .int .u32 0, .int .u32 0, .int .u32 0, .int .u32 0, .int .u32 0, .int .u32 0, .int .u32 0, .int .u32 0, .int .u32 0, .int .u32 0, .int .u32 0, .int .u32 0])) := by kernel_rfl
theorem fld117_0 : fldB Tryz.prog 117 0 0 = true := by kernel_rfl
theorem fld117_1 : fldB Tryz.prog 117 1 1 = true := by kernel_rfl
theorem bt117 : BuildTy Tryz.prog 117 [(0, 1), (1, 1)] [.slice none 0 0, .bool false] := ⟨by kernel_rfl, _, Tryz.underlying117, fun _ => by kernel_rfl⟩
theorem agg117 : aggB Tryz.prog 117 2 = true := by kernel_rfl
theorem zero117 : (Tryz.prog.info? 117).map (·.zero) = some (some (.agg #[.slice none 0 0, .bool false])) := by kernel_rfl
theorem scal142 : scalB Tryz.prog 142 = true := by kernel_rfl
theorem one142 : (Tryz.prog.info? 142).map (·.size) = some 1 := by kernel_rfl
theorem sl142 : SlTy Tryz.prog 142 101 3 (.agg #[.int .i32 0, .int .i64 0, .int .i64 0]) 24 := .of Tryz.underlying142 (by kernel_rfl) rfl (by decide)
theorem zero142 : (Tryz.prog.info? 142).map (·.zero) = some (some (.slice none 0 0)) := by kernel_rfl
theorem scal146 : scalB Tryz.prog 146 = true := by kernel_rfl
theorem sl146 : SlTy Tryz.prog 146 149 4 (.agg #[.int .i64 0, .int .i64 0, .int .i64 0, .int .i64 0]) 32 := .of Tryz.underlying146 (by kernel_rfl) rfl (by decide)
theorem fld149_0 : fldB Tryz.prog 149 0 0 = true := by kernel_rfl
theorem fld149_1 : fldB Tryz.prog 149 1 1 = true := by kernel_rfl
theorem bt149 : BuildTy Tryz.prog 149 [(0, 1), (1, 1), (2, 1), (3, 1)] [.int .i64 0, .int .i64 0, .int .i64 0, .int .i64 0] := ⟨by kernel_rfl, _, Tryz.underlying149, fun _ => by kernel_rfl⟩
theorem agg149 : aggB Tryz.prog 149 4 = true := by kernel_rfl
theorem zero149 : (Tryz.prog.info? 149).map (·.zero) = some (some (.agg #[.int .i64 0, .int .i64 0, .int .i64 0, .int .i64 0])) := by kernel_rfl
theorem sl150 : SlTy Tryz.prog 150 146 1 (.slice none 0 0) 24 := .of Tryz.underlying150 (by kernel_rfl) rfl (by decide)
theorem fld160_0 : fldB Tryz.prog 160 0 0 = true := by kernel_rfl
theorem fld160_1 : fldB Tryz.prog 160 1 1 = true := by kernel_rfl
theorem bt160 : BuildTy Tryz.prog 160 [(0, 1), (1, 1)] [.slice none 0 0, .int .i64 0] := ⟨by kernel_rfl, _, Tryz.underlying160, fun _ => by kernel_rfl⟩
theorem fld162_0 : fldB Tryz.prog 162 0 0 = true := by kernel_rfl
theorem fld162_1 : fldB Tryz.prog 162 1 2 = true := by kernel_rfl
theorem bt162 : BuildTy Tryz.prog 162 [(0, 2), (2, 1)] [.slice none 0 0, .int .i64 0, .int .i64 0] := ⟨by kernel_rfl, _, Tryz.underlying162, fun _ => by kernel_rfl⟩
theorem arr163 : ArrTy Tryz.prog 163 16 56 1 := ⟨Tryz.underlying163, by kernel_rfl⟩
theorem arr164 : ArrTy Tryz.prog 164 16 27 1 := ⟨Tryz.underlying164, by kernel_rfl⟩
theorem fld166_0 : fldB Tryz.prog 166 0 0 = true := by kernel_rfl
theorem fld166_1 : fldB Tryz.prog 166 1 16 = true := by kernel_rfl
theorem fld166_2 : fldB Tryz.prog 166 2 32 = true := by kernel_rfl
theorem bt166 : BuildTy Tryz.prog 166 [(0, 16), (16, 16), (32, 1)] [.int .u64 0, .int .u64 0, .int .u64 0, .int .u64 0, .int .u64 0, .int .u64 0, .int .u64 0, .int .u64 0, .int .u64 0, .int .u64 0, .int .u64 0, .int .u64 0, .int .u64 0, .int .u64 0, .int .u64 0, .int .u64 0, .slice none 0 0, .slice none 0 0, .slice none 0 0, .slice none 0 0, .slice none 0 0, .slice none 0 0, .slice none 0 0, .slice none 0 0, .slice none 0 0, .slice none 0 0, .slice none 0 0, .slice none 0 0, .slice none 0 0, .slice none 0 0, .slice none 0 0, .slice none 0 0, .int .i64 0] := ⟨by kernel_rfl, _, Tryz.underlying166, fun _ => by kernel_rfl⟩
theorem arr187 : ArrTy Tryz.prog 187 32 3 1 := ⟨Tryz.underlying187, by kernel_rfl⟩
theorem zero187 : (Tryz.prog.info? 187).map (·.zero) = some (some (.agg #[.int .i64 0, .int .i64 0, .int .i64 0, .int .i64 0, .int .i64 0, .int .i64 0, .int .i64 0, .int .i64 0, .int .i64 0, .int .i64 0, .int .i64 0, .int .i64 0, .int .i64 0, .int .i64 0, .int .i64 0, .int .i64 0, .int .i64 0, .int .i64 0, .int .i64 0, .int .i64 0, .int .i64 0, .int .i64 0, .int .i64 0, .int .i64 0, .int .i64 0, .int .i64 0, .int .i64 0, .int .i64 0, .int .i64 0, .int .i64 0, .int .i64 0, .int .i64 0])) := by kernel_rfl
theorem fld193_0 : fldB Tryz.prog 193 0 0 = true := by kernel_rfl
theorem bt193 : BuildTy Tryz.prog 193 [(0, 2)] [.slice none 0 0, .int .i64 0] := ⟨by kernel_rfl, _, Tryz.underlying193, fun _ => by kernel_rfl⟩
theorem ent5 : Enters Tryz.prog 5 := .of Tryz.func5 rfl (by kernel_rfl)
theorem ent7 : Enters Tryz.prog 7 := .of Tryz.func7 rfl (by kernel_rfl)
theorem ent9 : Enters Tryz.prog 9 := .of Tryz.func9 rfl (by kernel_rfl)
theorem ent11 : Enters Tryz.prog 11 := .of Tryz.func11 rfl (by kernel_rfl)
theorem ent12 : Enters Tryz.prog 12 := .of Tryz.func12 rfl (by kernel_rfl)
theorem ent13 : Enters Tryz.prog 13 := .of Tryz.func13 rfl (by kernel_rfl)
theorem ent14 : Enters Tryz.prog 14 := .of Tryz.func14 rfl (by kernel_rfl)
theorem ent15 : Enters Tryz.prog 15 := .of Tryz.func15 rfl (by kernel_rfl)
theorem ent16 : Enters Tryz.prog 16 := .of Tryz.func16 rfl (by kernel_rfl)
theorem ent17 : Enters Tryz.prog 17 := .of Tryz.func17 rfl (by kernel_rfl)
theorem ent18 : Enters Tryz.prog 18 := .of Tryz.func18 rfl (by kernel_rfl)
theorem ent19 : Enters Tryz.prog 19 := .of Tryz.func19 rfl (by kernel_rfl)
theorem ent20 : Enters Tryz.prog 20 := .of Tryz.func20 rfl (by kernel_rfl)
theorem ent27 : Enters Tryz.prog 27 := .of Tryz.func27 rfl (by kernel_rfl)
theorem ent28 : Enters Tryz.prog 28 := .of Tryz.func28 rfl (by kernel_rfl)
theorem ent29 : Enters Tryz.prog 29 := .of Tryz.func29 rfl (by kernel_rfl)
theorem ent30 : Enters Tryz.prog 30 := .of Tryz.func30 rfl (by kernel_rfl)
theorem ent31 : Enters Tryz.prog 31 := .of Tryz.func31 rfl (by kernel_rfl)
theorem ent32 : Enters Tryz.prog 32 := .of Tryz.func32 rfl (by kernel_rfl)
theorem ent33 : Enters Tryz.prog 33 := .of Tryz.func33 rfl (by kernel_rfl)
theorem ent34 : Enters Tryz.prog 34 := .of Tryz.func34 rfl (by kernel_rfl)
theorem ent35 : Enters Tryz.prog 35 := .of Tryz.func35 rfl (by kernel_rfl)
theorem ent36 : Enters Tryz.prog 36 := .of Tryz.func36 rfl (by kernel_rfl)
theorem ent37 : Enters Tryz.prog 37 := .of Tryz.func37 rfl (by kernel_rfl)
theorem ent38 : Enters Tryz.prog 38 := .of Tryz.func38 rfl (by kernel_rfl)
theorem ent39 : Enters Tryz.prog 39 := .of Tryz.func39 rfl (by kernel_rfl)
theorem ent40 : Enters Tryz.prog 40 := .of Tryz.func40 rfl (by kernel_rfl)
theorem ent41 : Enters Tryz.prog 41 := .of Tryz.func41 rfl (by kernel_rfl)
theorem ent42 : Enters Tryz.prog 42 := .of Tryz.func42 rfl (by kernel_rfl)
theorem ent43 : Enters Tryz.prog 43 := .of Tryz.func43 rfl (by kernel_rfl)
theorem ent44 : Enters Tryz.prog 44 := .of Tryz.func44 rfl (by kernel_rfl)
theorem ent45 : Enters Tryz.prog 45 := .of Tryz.func45 rfl (by kernel_rfl)
theorem ent46 : Enters Tryz.prog 46 := .of Tryz.func46 rfl (by kernel_rfl)
theorem ent47 : Enters Tryz.prog 47 := .of Tryz.func47 rfl (by kernel_rfl)
theorem ent56 : Enters Tryz.prog 56 := .of Tryz.func56 rfl (by kernel_rfl)
theorem ent57 : Enters Tryz.prog 57 := .of Tryz.func57 rfl (by kernel_rfl)
theorem ent60 : Enters Tryz.prog 60 := .of Tryz.func60 rfl (by kernel_rfl)
theorem ent61 : Enters Tryz.prog 61 := .of Tryz.func61 rfl (by kernel_rfl)
theorem ent62 : Enters Tryz.prog 62 := .of Tryz.func62 rfl (by kernel_rfl)
theorem ent63 : Enters Tryz.prog 63 := .of Tryz.func63 rfl (by kernel_rfl)
theorem ent64 : Enters Tryz.prog 64 := .of Tryz.func64 rfl (by kernel_rfl)
theorem ent65 : Enters Tryz.prog 65 := .of Tryz.func65 rfl (by kernel_rfl)
theorem ent66 : Enters Tryz.prog 66 := .of Tryz.func66 rfl (by kernel_rfl)
theorem ent67 : Enters Tryz.prog 67 := .of Tryz.func67 rfl (by kernel_rfl)
theorem ent68 : Enters Tryz.prog 68 := .of Tryz.func68 rfl (by kernel_rfl)
theorem ent69 : Enters Tryz.prog 69 := .of Tryz.func69 rfl (by kernel_rfl)
theorem ent70 : Enters Tryz.prog 70 := .of Tryz.func70 rfl (by kernel_rfl)
theorem ent71 : Enters Tryz.prog 71 := .of Tryz.func71 rfl (by kernel_rfl)
theorem ent72 : Enters Tryz.prog 72 := .of Tryz.func72 rfl (by kernel_rfl)
theorem ent73 : Enters Tryz.prog 73 := .of Tryz.func73 rfl (by kernel_rfl)
theorem ent74 : Enters Tryz.prog 74 := .of Tryz.func74 rfl (by kernel_rfl)
theorem ent75 : Enters Tryz.prog 75 := .of Tryz.func75 rfl (by kernel_rfl)
theorem ent76 : Enters Tryz.prog 76 := .of Tryz.func76 rfl (by kernel_rfl)
theorem ent77 : Enters Tryz.prog 77 := .of Tryz.func77 rfl (by kernel_rfl)
theorem ent86 : Enters Tryz.prog 86 := .of Tryz.func86 rfl (by kernel_rfl)
theorem ent97 : Enters Tryz.prog 97 := .of Tryz.func97 rfl (by kernel_rfl)
theorem ent98 : Enters Tryz.prog 98 := .of Tryz.func98 rfl (by kernel_rfl)
theorem ent101 : Enters Tryz.prog 101 := .of Tryz.func101 rfl (by kernel_rfl)
theorem ent102 : Enters Tryz.prog 102 := .of Tryz.func102 rfl (by kernel_rfl)
theorem ent103 : Enters Tryz.prog 103 := .of Tryz.func103 rfl (by kernel_rfl)
theorem ent104 : Enters Tryz.prog 104 := .of Tryz.func104 rfl (by kernel_rfl)
theorem ent105 : Enters Tryz.prog 105 := .of Tryz.func105 rfl (by kernel_rfl)
theorem ent106 : Enters Tryz.prog 106 := .of Tryz.func106 rfl (by kernel_rfl)
theorem ent107 : Enters Tryz.prog 107 := .of Tryz.func107 rfl (by kernel_rfl)
theorem ent108 : Enters Tryz.prog 108 := .of Tryz.func108 rfl (by kernel_rfl)
theorem ent109 : Enters Tryz.prog 109 := .of Tryz.func109 rfl (by kernel_rfl)
theorem ent110 : Enters Tryz.prog 110 := .of Tryz.func110 rfl (by kernel_rfl)
theorem ent111 : Enters Tryz.prog 111 := .of Tryz.func111 rfl (by kernel_rfl)
theorem ent112 : Enters Tryz.prog 112 := .of Tryz.func112 rfl (by kernel_rfl)
theorem ent113 : Enters Tryz.prog 113 := .of Tryz.func113 rfl (by kernel_rfl)
theorem ent114 : Enters Tryz.prog 114 := .of Tryz.func114 rfl (by kernel_rfl)
theorem ent126 : Enters Tryz.prog 126 := .of Tryz.func126 rfl (by kernel_rfl)
theorem ent135 : Enters Tryz.prog 135 := .of Tryz.func135 rfl (by kernel_rfl)
theorem ent136 : Enters Tryz.prog 136 := .of Tryz.func136 rfl (by kernel_rfl)
theorem ent137 : Enters Tryz.prog 137 := .of Tryz.func137 rfl (by kernel_rfl)
theorem ent138 : Enters Tryz.prog 138 := .of Tryz.func138 rfl (by kernel_rfl)
theorem ent139 : Enters Tryz.prog 139 := .of Tryz.func139 rfl (by kernel_rfl)
theorem ent140 : Enters Tryz.prog 140 := .of Tryz.func140 rfl (by kernel_rfl)
theorem ent141 : Enters Tryz.prog 141 := .of Tryz.func141 rfl (by kernel_rfl)
theorem ent142 : Enters Tryz.prog 142 := .of Tryz.func142 rfl (by kernel_rfl)
theorem ent143 : Enters Tryz.prog 143 := .of Tryz.func143 rfl (by kernel_rfl)
theorem ent144 : Enters Tryz.prog 144 := .of Tryz.func144 rfl (by kernel_rfl)
theorem ent149 : Enters Tryz.prog 149 := .of Tryz.func149 rfl (by kernel_rfl)
theorem ent150 : Enters Tryz.prog 150 := .of Tryz.func150 rfl (by kernel_rfl)
theorem ent151 : Enters Tryz.prog 151 := .of Tryz.func151 rfl (by kernel_rfl)
theorem ent152 : Enters Tryz.prog 152 := .of Tryz.func152 rfl (by kernel_rfl)
theorem ent153 : Enters Tryz.prog 153 := .of Tryz.func153 rfl (by kernel_rfl)
theorem ent155 : Enters Tryz.prog 155 := .of Tryz.func155 rfl (by kernel_rfl)
theorem ent156 : Enters Tryz.prog 156 := .of Tryz.func156 rfl (by kernel_rfl)
theorem ent157 : Enters Tryz.prog 157 := .of Tryz.func157 rfl (by kernel_rfl)
theorem ent158 : Enters Tryz.prog 158 := .of Tryz.func158 rfl (by kernel_rfl)
theorem ent159 : Enters Tryz.prog 159 := .of Tryz.func159 rfl (by kernel_rfl)
theorem ent160 : Enters Tryz.prog 160 := .of Tryz.func160 rfl (by kernel_rfl)
theorem ent161 : Enters Tryz.prog 161 := .of Tryz.func161 rfl (by kernel_rfl)
theorem mixed : Tryz.prog.follows .mixedOrders = true := by kernel_rfl
end Go.Proofs.YtecfgjdpghddgaaGreat
