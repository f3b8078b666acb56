/-
  TABLES: closed facts on the types and functions of this seat (printed by our own program gtypes.py).
-/
import Derived.Test.YtecfgjdpghddgaaGreatKm
import Derived.Test.YtecfgjdpghddgaaGreatRows
set_option linter.unusedVariables false
set_option linter.unusedSimpArgs false
set_option linter.unusedSectionVars false
namespace Go.Proofs.YtecfgjdpghddgaaGreat
open Go.RowKit Go.Kw
set_option maxRecDepth 100000
theorem scal3 : scalB Tryz.prog 3 = true := by kernel_rfl
theorem one3 : (Tryz.prog.info? 3).map (·.size) = some 1 := by kernel_rfl
theorem scal4 : scalB Tryz.prog 4 = true := by kernel_rfl
theorem one4 : (Tryz.prog.info? 4).map (·.size) = some 1 := by kernel_rfl
theorem scal5 : scalB Tryz.prog 5 = true := by kernel_rfl
theorem one5 : (Tryz.prog.info? 5).map (·.size) = some 1 := by kernel_rfl
theorem scal22 : scalB Tryz.prog 22 = true := by kernel_rfl
theorem one22 : (Tryz.prog.info? 22).map (·.size) = some 1 := by kernel_rfl
theorem sl22 : SlTy Tryz.prog 22 5 1 (.int .u8 0) 1 := .of Tryz.underlying22 (by kernel_rfl) rfl (by decide)
theorem scal27 : scalB Tryz.prog 27 = true := by kernel_rfl
theorem one27 : (Tryz.prog.info? 27).map (·.size) = some 1 := by kernel_rfl
theorem sl27 : SlTy Tryz.prog 27 3 1 (.int .i64 0) 8 := .of Tryz.underlying27 (by kernel_rfl) rfl (by decide)
theorem fld51_0 : fldB Tryz.prog 51 0 0 = true := by kernel_rfl
theorem fld51_1 : fldB Tryz.prog 51 1 1 = true := by kernel_rfl
theorem bt51 : BuildTy Tryz.prog 51 [(0, 1), (1, 1)] [.slice none 0 0, .bool false] := ⟨by kernel_rfl, _, Tryz.underlying51, fun _ => by kernel_rfl⟩
theorem agg51 : aggB Tryz.prog 51 2 = true := by kernel_rfl
theorem zero51 : (Tryz.prog.info? 51).map (·.zero) = some (some (.agg #[.slice none 0 0, .bool false])) := by kernel_rfl
theorem scal56 : scalB Tryz.prog 56 = true := by kernel_rfl
theorem one56 : (Tryz.prog.info? 56).map (·.size) = some 1 := by kernel_rfl
theorem scal63 : scalB Tryz.prog 63 = true := by kernel_rfl
theorem one63 : (Tryz.prog.info? 63).map (·.size) = some 1 := by kernel_rfl
theorem sl63 : SlTy Tryz.prog 63 97 2 (.agg #[.slice none 0 0, .int .i64 0]) 32 := .of Tryz.underlying63 (by kernel_rfl) rfl (by decide)
theorem fld65_0 : fldB Tryz.prog 65 0 0 = true := by kernel_rfl
theorem fld65_1 : fldB Tryz.prog 65 1 1 = true := by kernel_rfl
theorem fld65_2 : fldB Tryz.prog 65 2 2 = true := by kernel_rfl
theorem fld65_3 : fldB Tryz.prog 65 3 3 = true := by kernel_rfl
theorem fld65_4 : fldB Tryz.prog 65 4 4 = true := by kernel_rfl
theorem fld65_5 : fldB Tryz.prog 65 5 5 = true := by kernel_rfl
theorem bt65 : BuildTy Tryz.prog 65 [(0, 1), (1, 1), (2, 1), (3, 1), (4, 1), (5, 1)] [.int .i64 0, .int .i64 0, .slice none 0 0, .slice none 0 0, .int .i64 0, .slice none 0 0] := ⟨by kernel_rfl, _, Tryz.underlying65, fun _ => by kernel_rfl⟩
theorem agg65 : aggB Tryz.prog 65 6 = true := by kernel_rfl
theorem zero65 : (Tryz.prog.info? 65).map (·.zero) = some (some (.agg #[.int .i64 0, .int .i64 0, .slice none 0 0, .slice none 0 0, .int .i64 0, .slice none 0 0])) := by kernel_rfl
theorem arr81 : ArrTy Tryz.prog 81 4 5 1 := ⟨Tryz.underlying81, by kernel_rfl⟩
theorem bar81 : BuildAr Tryz.prog 81 4 5 [.int .u8 0, .int .u8 0, .int .u8 0, .int .u8 0] := ⟨by kernel_rfl, Tryz.underlying81, by kernel_rfl⟩
theorem agg81 : aggB Tryz.prog 81 4 = true := by kernel_rfl
theorem zero81 : (Tryz.prog.info? 81).map (·.zero) = some (some (.agg #[.int .u8 0, .int .u8 0, .int .u8 0, .int .u8 0])) := by kernel_rfl
theorem scal83 : scalB Tryz.prog 83 = true := by kernel_rfl
theorem one83 : (Tryz.prog.info? 83).map (·.size) = some 1 := by kernel_rfl
theorem arr89 : ArrTy Tryz.prog 89 3 56 1 := ⟨Tryz.underlying89, by kernel_rfl⟩
theorem zero89 : (Tryz.prog.info? 89).map (·.zero) = some (some (.agg #[.int .u64 0, .int .u64 0, .int .u64 0])) := by kernel_rfl
theorem sl90 : SlTy Tryz.prog 90 4 1 (.bool false) 1 := .of Tryz.underlying90 (by kernel_rfl) rfl (by decide)
theorem sl92 : SlTy Tryz.prog 92 56 1 (.int .u64 0) 8 := .of Tryz.underlying92 (by kernel_rfl) rfl (by decide)
theorem fld97_0 : fldB Tryz.prog 97 0 0 = true := by kernel_rfl
theorem fld97_1 : fldB Tryz.prog 97 1 1 = true := by kernel_rfl
theorem bt97 : BuildTy Tryz.prog 97 [(0, 1), (1, 1)] [.slice none 0 0, .int .i64 0] := ⟨by kernel_rfl, _, Tryz.underlying97, fun _ => by kernel_rfl⟩
theorem agg97 : aggB Tryz.prog 97 2 = true := by kernel_rfl
theorem zero97 : (Tryz.prog.info? 97).map (·.zero) = some (some (.agg #[.slice none 0 0, .int .i64 0])) := by kernel_rfl
theorem arr114 : ArrTy Tryz.prog 114 16 83 1 := ⟨Tryz.underlying114, by kernel_rfl⟩
theorem zero114 : (Tryz.prog.info? 114).map (·.zero) = some (some (.agg #[.int .u32 0, .int .u32 0, .int .u32 0, .int .u32 0, .int .u32 0, .int .u32 0, .int .u32 0, .int .u32 0, .int .u32 0, .int .u32 0, .int .u32 0, .int .u32 0, .int .u32 0, .int .u32 0, .int .u32 0, .int .u32 0])) := by kernel_rfl
theorem fld117_0 : fldB Tryz.prog 117 0 0 = true := by kernel_rfl
theorem fld117_1 : fldB Tryz.prog 117 1 1 = true := by kernel_rfl
theorem bt117 : BuildTy Tryz.prog 117 [(0, 1), (1, 1)] [.slice none 0 0, .bool false] := ⟨by kernel_rfl, _, Tryz.underlying117, fun _ => by kernel_rfl⟩
theorem agg117 : aggB Tryz.prog 117 2 = true := by kernel_rfl
theorem zero117 : (Tryz.prog.info? 117).map (·.zero) = some (some (.agg #[.slice none 0 0, .bool false])) := by kernel_rfl
theorem sl129 : SlTy Tryz.prog 129 27 1 (.slice none 0 0) 24 := .of Tryz.underlying129 (by kernel_rfl) rfl (by decide)
theorem scal146 : scalB Tryz.prog 146 = true := by kernel_rfl
theorem sl146 : SlTy Tryz.prog 146 149 4 (.agg #[.int .i64 0, .int .i64 0, .int .i64 0, .int .i64 0]) 32 := .of Tryz.underlying146 (by kernel_rfl) rfl (by decide)
theorem fld149_0 : fldB Tryz.prog 149 0 0 = true := by kernel_rfl
theorem fld149_1 : fldB Tryz.prog 149 1 1 = true := by kernel_rfl
theorem bt149 : BuildTy Tryz.prog 149 [(0, 1), (1, 1), (2, 1), (3, 1)] [.int .i64 0, .int .i64 0, .int .i64 0, .int .i64 0] := ⟨by kernel_rfl, _, Tryz.underlying149, fun _ => by kernel_rfl⟩
theorem agg149 : aggB Tryz.prog 149 4 = true := by kernel_rfl
theorem zero149 : (Tryz.prog.info? 149).map (·.zero) = some (some (.agg #[.int .i64 0, .int .i64 0, .int .i64 0, .int .i64 0])) := by kernel_rfl
theorem sl150 : SlTy Tryz.prog 150 146 1 (.slice none 0 0) 24 := .of Tryz.underlying150 (by kernel_rfl) rfl (by decide)
theorem fld160_0 : fldB Tryz.prog 160 0 0 = true := by kernel_rfl
theorem fld160_1 : fldB Tryz.prog 160 1 1 = true := by kernel_rfl
theorem bt160 : BuildTy Tryz.prog 160 [(0, 1), (1, 1)] [.slice none 0 0, .int .i64 0] := ⟨by kernel_rfl, _, Tryz.underlying160, fun _ => by kernel_rfl⟩
theorem fld162_0 : fldB Tryz.prog 162 0 0 = true := by kernel_rfl
theorem fld162_1 : fldB Tryz.prog 162 1 2 = true := by kernel_rfl
theorem bt162 : BuildTy Tryz.prog 162 [(0, 2), (2, 1)] [.slice none 0 0, .int .i64 0, .int .i64 0] := ⟨by kernel_rfl, _, Tryz.underlying162, fun _ => by kernel_rfl⟩
theorem arr163 : ArrTy Tryz.prog 163 16 56 1 := ⟨Tryz.underlying163, by kernel_rfl⟩
theorem arr164 : ArrTy Tryz.prog 164 16 27 1 := ⟨Tryz.underlying164, by kernel_rfl⟩
theorem fld166_0 : fldB Tryz.prog 166 0 0 = true := by kernel_rfl
theorem fld166_1 : fldB Tryz.prog 166 1 16 = true := by kernel_rfl
theorem fld166_2 : fldB Tryz.prog 166 2 32 = true := by kernel_rfl
theorem bt166 : BuildTy Tryz.prog 166 [(0, 16), (16, 16), (32, 1)] [.int .u64 0, .int .u64 0, .int .u64 0, .int .u64 0, .int .u64 0, .int .u64 0, .int .u64 0, .int .u64 0, .int .u64 0, .int .u64 0, .int .u64 0, .int .u64 0, .int .u64 0, .int .u64 0, .int .u64 0, .int .u64 0, .slice none 0 0, .slice none 0 0, .slice none 0 0, .slice none 0 0, .slice none 0 0, .slice none 0 0, .slice none 0 0, .slice none 0 0, .slice none 0 0, .slice none 0 0, .slice none 0 0, .slice none 0 0, .slice none 0 0, .slice none 0 0, .slice none 0 0, .slice none 0 0, .int .i64 0] := ⟨by kernel_rfl, _, Tryz.underlying166, fun _ => by kernel_rfl⟩
theorem sl172 : SlTy Tryz.prog 172 174 3 (.agg #[.int .i64 0, .bool false, .slice none 0 0]) 40 := .of Tryz.underlying172 (by kernel_rfl) rfl (by decide)
theorem fld174_0 : fldB Tryz.prog 174 0 0 = true := by kernel_rfl
theorem fld174_2 : fldB Tryz.prog 174 2 2 = true := by kernel_rfl
theorem bt174 : BuildTy Tryz.prog 174 [(0, 1), (1, 1), (2, 1)] [.int .i64 0, .bool false, .slice none 0 0] := ⟨by kernel_rfl, _, Tryz.underlying174, fun _ => by kernel_rfl⟩
theorem agg174 : aggB Tryz.prog 174 3 = true := by kernel_rfl
theorem zero174 : (Tryz.prog.info? 174).map (·.zero) = some (some (.agg #[.int .i64 0, .bool false, .slice none 0 0])) := by kernel_rfl
theorem arr187 : ArrTy Tryz.prog 187 32 3 1 := ⟨Tryz.underlying187, by kernel_rfl⟩
theorem zero187 : (Tryz.prog.info? 187).map (·.zero) = some (some (.agg #[.int .i64 0, .int .i64 0, .int .i64 0, .int .i64 0, .int .i64 0, .int .i64 0, .int .i64 0, .int .i64 0, .int .i64 0, .int .i64 0, .int .i64 0, .int .i64 0, .int .i64 0, .int .i64 0, .int .i64 0, .int .i64 0, .int .i64 0, .int .i64 0, .int .i64 0, .int .i64 0, .int .i64 0, .int .i64 0, .int .i64 0, .int .i64 0, .int .i64 0, .int .i64 0, .int .i64 0, .int .i64 0, .int .i64 0, .int .i64 0, .int .i64 0, .int .i64 0])) := by kernel_rfl
theorem fld193_0 : fldB Tryz.prog 193 0 0 = true := by kernel_rfl
theorem bt193 : BuildTy Tryz.prog 193 [(0, 2)] [.slice none 0 0, .int .i64 0] := ⟨by kernel_rfl, _, Tryz.underlying193, fun _ => by kernel_rfl⟩
theorem ent5 : Enters Tryz.prog 5 := .of Tryz.func5 rfl (by kernel_rfl)
theorem ent6 : Enters Tryz.prog 6 := .of Tryz.func6 rfl (by kernel_rfl)
theorem ent7 : Enters Tryz.prog 7 := .of Tryz.func7 rfl (by kernel_rfl)
theorem ent8 : Enters Tryz.prog 8 := .of Tryz.func8 rfl (by kernel_rfl)
theorem ent9 : Enters Tryz.prog 9 := .of Tryz.func9 rfl (by kernel_rfl)
theorem ent10 : Enters Tryz.prog 10 := .of Tryz.func10 rfl (by kernel_rfl)
theorem ent11 : Enters Tryz.prog 11 := .of Tryz.func11 rfl (by kernel_rfl)
theorem ent13 : Enters Tryz.prog 13 := .of Tryz.func13 rfl (by kernel_rfl)
theorem ent18 : Enters Tryz.prog 18 := .of Tryz.func18 rfl (by kernel_rfl)
theorem ent19 : Enters Tryz.prog 19 := .of Tryz.func19 rfl (by kernel_rfl)
theorem ent20 : Enters Tryz.prog 20 := .of Tryz.func20 rfl (by kernel_rfl)
theorem ent21 : Enters Tryz.prog 21 := .of Tryz.func21 rfl (by kernel_rfl)
theorem ent22 : Enters Tryz.prog 22 := .of Tryz.func22 rfl (by kernel_rfl)
theorem ent23 : Enters Tryz.prog 23 := .of Tryz.func23 rfl (by kernel_rfl)
theorem ent24 : Enters Tryz.prog 24 := .of Tryz.func24 rfl (by kernel_rfl)
theorem ent25 : Enters Tryz.prog 25 := .of Tryz.func25 rfl (by kernel_rfl)
theorem ent26 : Enters Tryz.prog 26 := .of Tryz.func26 rfl (by kernel_rfl)
theorem ent27 : Enters Tryz.prog 27 := .of Tryz.func27 rfl (by kernel_rfl)
theorem ent28 : Enters Tryz.prog 28 := .of Tryz.func28 rfl (by kernel_rfl)
theorem ent29 : Enters Tryz.prog 29 := .of Tryz.func29 rfl (by kernel_rfl)
theorem ent30 : Enters Tryz.prog 30 := .of Tryz.func30 rfl (by kernel_rfl)
theorem ent35 : Enters Tryz.prog 35 := .of Tryz.func35 rfl (by kernel_rfl)
theorem ent36 : Enters Tryz.prog 36 := .of Tryz.func36 rfl (by kernel_rfl)
theorem ent39 : Enters Tryz.prog 39 := .of Tryz.func39 rfl (by kernel_rfl)
theorem ent41 : Enters Tryz.prog 41 := .of Tryz.func41 rfl (by kernel_rfl)
theorem ent42 : Enters Tryz.prog 42 := .of Tryz.func42 rfl (by kernel_rfl)
theorem ent43 : Enters Tryz.prog 43 := .of Tryz.func43 rfl (by kernel_rfl)
theorem ent44 : Enters Tryz.prog 44 := .of Tryz.func44 rfl (by kernel_rfl)
theorem ent45 : Enters Tryz.prog 45 := .of Tryz.func45 rfl (by kernel_rfl)
theorem ent46 : Enters Tryz.prog 46 := .of Tryz.func46 rfl (by kernel_rfl)
theorem ent47 : Enters Tryz.prog 47 := .of Tryz.func47 rfl (by kernel_rfl)
theorem ent48 : Enters Tryz.prog 48 := .of Tryz.func48 rfl (by kernel_rfl)
theorem ent49 : Enters Tryz.prog 49 := .of Tryz.func49 rfl (by kernel_rfl)
theorem ent50 : Enters Tryz.prog 50 := .of Tryz.func50 rfl (by kernel_rfl)
theorem ent51 : Enters Tryz.prog 51 := .of Tryz.func51 rfl (by kernel_rfl)
theorem ent52 : Enters Tryz.prog 52 := .of Tryz.func52 rfl (by kernel_rfl)
theorem ent53 : Enters Tryz.prog 53 := .of Tryz.func53 rfl (by kernel_rfl)
theorem ent54 : Enters Tryz.prog 54 := .of Tryz.func54 rfl (by kernel_rfl)
theorem ent55 : Enters Tryz.prog 55 := .of Tryz.func55 rfl (by kernel_rfl)
theorem ent66 : Enters Tryz.prog 66 := .of Tryz.func66 rfl (by kernel_rfl)
theorem ent67 : Enters Tryz.prog 67 := .of Tryz.func67 rfl (by kernel_rfl)
theorem ent68 : Enters Tryz.prog 68 := .of Tryz.func68 rfl (by kernel_rfl)
theorem ent69 : Enters Tryz.prog 69 := .of Tryz.func69 rfl (by kernel_rfl)
theorem ent70 : Enters Tryz.prog 70 := .of Tryz.func70 rfl (by kernel_rfl)
theorem ent71 : Enters Tryz.prog 71 := .of Tryz.func71 rfl (by kernel_rfl)
theorem ent72 : Enters Tryz.prog 72 := .of Tryz.func72 rfl (by kernel_rfl)
theorem ent73 : Enters Tryz.prog 73 := .of Tryz.func73 rfl (by kernel_rfl)
theorem ent74 : Enters Tryz.prog 74 := .of Tryz.func74 rfl (by kernel_rfl)
theorem ent75 : Enters Tryz.prog 75 := .of Tryz.func75 rfl (by kernel_rfl)
theorem ent76 : Enters Tryz.prog 76 := .of Tryz.func76 rfl (by kernel_rfl)
theorem ent77 : Enters Tryz.prog 77 := .of Tryz.func77 rfl (by kernel_rfl)
theorem ent78 : Enters Tryz.prog 78 := .of Tryz.func78 rfl (by kernel_rfl)
theorem ent79 : Enters Tryz.prog 79 := .of Tryz.func79 rfl (by kernel_rfl)
theorem ent80 : Enters Tryz.prog 80 := .of Tryz.func80 rfl (by kernel_rfl)
theorem ent81 : Enters Tryz.prog 81 := .of Tryz.func81 rfl (by kernel_rfl)
theorem ent82 : Enters Tryz.prog 82 := .of Tryz.func82 rfl (by kernel_rfl)
theorem ent83 : Enters Tryz.prog 83 := .of Tryz.func83 rfl (by kernel_rfl)
theorem ent84 : Enters Tryz.prog 84 := .of Tryz.func84 rfl (by kernel_rfl)
theorem ent85 : Enters Tryz.prog 85 := .of Tryz.func85 rfl (by kernel_rfl)
theorem ent97 : Enters Tryz.prog 97 := .of Tryz.func97 rfl (by kernel_rfl)
theorem ent101 : Enters Tryz.prog 101 := .of Tryz.func101 rfl (by kernel_rfl)
theorem ent102 : Enters Tryz.prog 102 := .of Tryz.func102 rfl (by kernel_rfl)
theorem ent103 : Enters Tryz.prog 103 := .of Tryz.func103 rfl (by kernel_rfl)
theorem ent104 : Enters Tryz.prog 104 := .of Tryz.func104 rfl (by kernel_rfl)
theorem ent105 : Enters Tryz.prog 105 := .of Tryz.func105 rfl (by kernel_rfl)
theorem ent106 : Enters Tryz.prog 106 := .of Tryz.func106 rfl (by kernel_rfl)
theorem ent107 : Enters Tryz.prog 107 := .of Tryz.func107 rfl (by kernel_rfl)
theorem ent108 : Enters Tryz.prog 108 := .of Tryz.func108 rfl (by kernel_rfl)
theorem ent109 : Enters Tryz.prog 109 := .of Tryz.func109 rfl (by kernel_rfl)
theorem ent110 : Enters Tryz.prog 110 := .of Tryz.func110 rfl (by kernel_rfl)
theorem ent111 : Enters Tryz.prog 111 := .of Tryz.func111 rfl (by kernel_rfl)
theorem ent112 : Enters Tryz.prog 112 := .of Tryz.func112 rfl (by kernel_rfl)
theorem ent113 : Enters Tryz.prog 113 := .of Tryz.func113 rfl (by kernel_rfl)
theorem ent114 : Enters Tryz.prog 114 := .of Tryz.func114 rfl (by kernel_rfl)
theorem ent115 : Enters Tryz.prog 115 := .of Tryz.func115 rfl (by kernel_rfl)
theorem ent116 : Enters Tryz.prog 116 := .of Tryz.func116 rfl (by kernel_rfl)
theorem ent117 : Enters Tryz.prog 117 := .of Tryz.func117 rfl (by kernel_rfl)
theorem ent118 : Enters Tryz.prog 118 := .of Tryz.func118 rfl (by kernel_rfl)
theorem ent119 : Enters Tryz.prog 119 := .of Tryz.func119 rfl (by kernel_rfl)
theorem ent126 : Enters Tryz.prog 126 := .of Tryz.func126 rfl (by kernel_rfl)
theorem ent135 : Enters Tryz.prog 135 := .of Tryz.func135 rfl (by kernel_rfl)
theorem ent136 : Enters Tryz.prog 136 := .of Tryz.func136 rfl (by kernel_rfl)
theorem ent137 : Enters Tryz.prog 137 := .of Tryz.func137 rfl (by kernel_rfl)
theorem ent138 : Enters Tryz.prog 138 := .of Tryz.func138 rfl (by kernel_rfl)
theorem ent139 : Enters Tryz.prog 139 := .of Tryz.func139 rfl (by kernel_rfl)
theorem ent140 : Enters Tryz.prog 140 := .of Tryz.func140 rfl (by kernel_rfl)
theorem ent141 : Enters Tryz.prog 141 := .of Tryz.func141 rfl (by kernel_rfl)
theorem ent142 : Enters Tryz.prog 142 := .of Tryz.func142 rfl (by kernel_rfl)
theorem ent143 : Enters Tryz.prog 143 := .of Tryz.func143 rfl (by kernel_rfl)
theorem ent144 : Enters Tryz.prog 144 := .of Tryz.func144 rfl (by kernel_rfl)
theorem ent149 : Enters Tryz.prog 149 := .of Tryz.func149 rfl (by kernel_rfl)
theorem ent150 : Enters Tryz.prog 150 := .of Tryz.func150 rfl (by kernel_rfl)
theorem ent151 : Enters Tryz.prog 151 := .of Tryz.func151 rfl (by kernel_rfl)
theorem ent152 : Enters Tryz.prog 152 := .of Tryz.func152 rfl (by kernel_rfl)
theorem ent153 : Enters Tryz.prog 153 := .of Tryz.func153 rfl (by kernel_rfl)
theorem ent155 : Enters Tryz.prog 155 := .of Tryz.func155 rfl (by kernel_rfl)
theorem ent156 : Enters Tryz.prog 156 := .of Tryz.func156 rfl (by kernel_rfl)
theorem ent157 : Enters Tryz.prog 157 := .of Tryz.func157 rfl (by kernel_rfl)
theorem ent158 : Enters Tryz.prog 158 := .of Tryz.func158 rfl (by kernel_rfl)
theorem ent159 : Enters Tryz.prog 159 := .of Tryz.func159 rfl (by kernel_rfl)
theorem ent160 : Enters Tryz.prog 160 := .of Tryz.func160 rfl (by kernel_rfl)
theorem ent161 : Enters Tryz.prog 161 := .of Tryz.func161 rfl (by kernel_rfl)
theorem mixed : Tryz.prog.follows .mixedOrders = true := by kernel_rfl
end Go.Proofs.YtecfgjdpghddgaaGreat
