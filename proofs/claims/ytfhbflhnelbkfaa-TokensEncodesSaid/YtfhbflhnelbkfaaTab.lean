/-
  TABLES: closed facts on the types and functions of this seat (printed by our own program gtypes.py).
-/
import Derived.Test.YtfhbflhnelbkfaaKm
import Derived.Test.YtfhbflhnelbkfaaRows
namespace Go.Proofs.Ytfhbflhnelbkfaa
open Go.RowKit Go.Kw
set_option maxRecDepth 100000
theorem scal3 : scalB Try.prog 3 = true := by kernel_rfl
theorem one3 : (Try.prog.info? 3).map (·.size) = some 1 := by kernel_rfl
theorem scal4 : scalB Try.prog 4 = true := by kernel_rfl
theorem one4 : (Try.prog.info? 4).map (·.size) = some 1 := by kernel_rfl
theorem scal5 : scalB Try.prog 5 = true := by kernel_rfl
theorem one5 : (Try.prog.info? 5).map (·.size) = some 1 := by kernel_rfl
theorem scal22 : scalB Try.prog 22 = true := by kernel_rfl
theorem one22 : (Try.prog.info? 22).map (·.size) = some 1 := by kernel_rfl
theorem sl22 : SlTy Try.prog 22 3 1 (.int .i64 0) 8 := .of Try.underlying22 (by kernel_rfl) rfl (by decide)
theorem scal40 : scalB Try.prog 40 = true := by kernel_rfl
theorem one40 : (Try.prog.info? 40).map (·.size) = some 1 := by kernel_rfl
theorem sl40 : SlTy Try.prog 40 5 1 (.int .u8 0) 1 := .of Try.underlying40 (by kernel_rfl) rfl (by decide)
theorem scal77 : scalB Try.prog 77 = true := by kernel_rfl
theorem one77 : (Try.prog.info? 77).map (·.size) = some 1 := by kernel_rfl
theorem sl77 : SlTy Try.prog 77 124 2 (.agg #[.slice none 0 0, .int .i64 0]) 32 := .of Try.underlying77 (by kernel_rfl) rfl (by decide)
theorem fld79_0 : fldB Try.prog 79 0 0 = true := by kernel_rfl
theorem fld79_1 : fldB Try.prog 79 1 1 = true := by kernel_rfl
theorem fld79_2 : fldB Try.prog 79 2 2 = true := by kernel_rfl
theorem fld79_3 : fldB Try.prog 79 3 3 = true := by kernel_rfl
theorem fld79_4 : fldB Try.prog 79 4 4 = true := by kernel_rfl
theorem fld79_5 : fldB Try.prog 79 5 5 = true := by kernel_rfl
theorem bt79 : BuildTy Try.prog 79 [(0, 1), (1, 1), (2, 1), (3, 1), (4, 1), (5, 1)] [.int .i64 0, .int .i64 0, .slice none 0 0, .slice none 0 0, .int .i64 0, .slice none 0 0] := ⟨by kernel_rfl, _, Try.underlying79, fun _ => by kernel_rfl⟩
theorem agg79 : aggB Try.prog 79 6 = true := by kernel_rfl
theorem zero79 : (Try.prog.info? 79).map (·.zero) = some (some (.agg #[.int .i64 0, .int .i64 0, .slice none 0 0, .slice none 0 0, .int .i64 0, .slice none 0 0])) := by kernel_rfl
theorem fld86_0 : fldB Try.prog 86 0 0 = true := by kernel_rfl
theorem fld86_1 : fldB Try.prog 86 1 1 = true := by kernel_rfl
theorem bt86 : BuildTy Try.prog 86 [(0, 1), (1, 1)] [.slice none 0 0, .bool false] := ⟨by kernel_rfl, _, Try.underlying86, fun _ => by kernel_rfl⟩
theorem agg86 : aggB Try.prog 86 2 = true := by kernel_rfl
theorem zero86 : (Try.prog.info? 86).map (·.zero) = some (some (.agg #[.slice none 0 0, .bool false])) := by kernel_rfl
theorem scal108 : scalB Try.prog 108 = true := by kernel_rfl
theorem one108 : (Try.prog.info? 108).map (·.size) = some 1 := by kernel_rfl
theorem fld124_0 : fldB Try.prog 124 0 0 = true := by kernel_rfl
theorem fld124_1 : fldB Try.prog 124 1 1 = true := by kernel_rfl
theorem bt124 : BuildTy Try.prog 124 [(0, 1), (1, 1)] [.slice none 0 0, .int .i64 0] := ⟨by kernel_rfl, _, Try.underlying124, fun _ => by kernel_rfl⟩
theorem agg124 : aggB Try.prog 124 2 = true := by kernel_rfl
theorem zero124 : (Try.prog.info? 124).map (·.zero) = some (some (.agg #[.slice none 0 0, .int .i64 0])) := by kernel_rfl
theorem arr130 : ArrTy Try.prog 130 4 5 1 := ⟨Try.underlying130, by kernel_rfl⟩
theorem bar130 : BuildAr Try.prog 130 4 5 [.int .u8 0, .int .u8 0, .int .u8 0, .int .u8 0] := ⟨by kernel_rfl, Try.underlying130, by kernel_rfl⟩
theorem agg130 : aggB Try.prog 130 4 = true := by kernel_rfl
theorem zero130 : (Try.prog.info? 130).map (·.zero) = some (some (.agg #[.int .u8 0, .int .u8 0, .int .u8 0, .int .u8 0])) := by kernel_rfl
theorem scal132 : scalB Try.prog 132 = true := by kernel_rfl
theorem one132 : (Try.prog.info? 132).map (·.size) = some 1 := by kernel_rfl
theorem sl136 : SlTy Try.prog 136 22 1 (.slice none 0 0) 24 := .of Try.underlying136 (by kernel_rfl) rfl (by decide)
theorem fld150_0 : fldB Try.prog 150 0 0 = true := by kernel_rfl
theorem fld150_1 : fldB Try.prog 150 1 1 = true := by kernel_rfl
theorem bt150 : BuildTy Try.prog 150 [(0, 1), (1, 1)] [.slice none 0 0, .bool false] := ⟨by kernel_rfl, _, Try.underlying150, fun _ => by kernel_rfl⟩
theorem agg150 : aggB Try.prog 150 2 = true := by kernel_rfl
theorem zero150 : (Try.prog.info? 150).map (·.zero) = some (some (.agg #[.slice none 0 0, .bool false])) := by kernel_rfl
theorem scal161 : scalB Try.prog 161 = true := by kernel_rfl
theorem sl161 : SlTy Try.prog 161 164 4 (.agg #[.int .i64 0, .int .i64 0, .int .i64 0, .int .i64 0]) 32 := .of Try.underlying161 (by kernel_rfl) rfl (by decide)
theorem fld164_0 : fldB Try.prog 164 0 0 = true := by kernel_rfl
theorem fld164_1 : fldB Try.prog 164 1 1 = true := by kernel_rfl
theorem bt164 : BuildTy Try.prog 164 [(0, 1), (1, 1), (2, 1), (3, 1)] [.int .i64 0, .int .i64 0, .int .i64 0, .int .i64 0] := ⟨by kernel_rfl, _, Try.underlying164, fun _ => by kernel_rfl⟩
theorem agg164 : aggB Try.prog 164 4 = true := by kernel_rfl
theorem zero164 : (Try.prog.info? 164).map (·.zero) = some (some (.agg #[.int .i64 0, .int .i64 0, .int .i64 0, .int .i64 0])) := by kernel_rfl
theorem sl165 : SlTy Try.prog 165 161 1 (.slice none 0 0) 24 := .of Try.underlying165 (by kernel_rfl) rfl (by decide)
theorem sl167 : SlTy Try.prog 167 108 1 (.int .u64 0) 8 := .of Try.underlying167 (by kernel_rfl) rfl (by decide)
theorem arr172 : ArrTy Try.prog 172 16 132 1 := ⟨Try.underlying172, by kernel_rfl⟩
theorem zero172 : (Try.prog.info? 172).map (·.zero) = some (some (.agg #[.int .u32 0, .int .u32 0, .int .u32 0, .int .u32 0, .int .u32 0, .int .u32 0, .int .u32 0, .int .u32 0, .int .u32 0, .int .u32 0, .int .u32 0, .int .u32 0, .int .u32 0, .int .u32 0, .int .u32 0, .int .u32 0])) := by kernel_rfl
theorem sl174 : SlTy Try.prog 174 176 3 (.agg #[.int .i64 0, .bool false, .slice none 0 0]) 40 := .of Try.underlying174 (by kernel_rfl) rfl (by decide)
theorem fld176_0 : fldB Try.prog 176 0 0 = true := by kernel_rfl
theorem fld176_2 : fldB Try.prog 176 2 2 = true := by kernel_rfl
theorem bt176 : BuildTy Try.prog 176 [(0, 1), (1, 1), (2, 1)] [.int .i64 0, .bool false, .slice none 0 0] := ⟨by kernel_rfl, _, Try.underlying176, fun _ => by kernel_rfl⟩
theorem agg176 : aggB Try.prog 176 3 = true := by kernel_rfl
theorem zero176 : (Try.prog.info? 176).map (·.zero) = some (some (.agg #[.int .i64 0, .bool false, .slice none 0 0])) := by kernel_rfl
theorem sl180 : SlTy Try.prog 180 4 1 (.bool false) 1 := .of Try.underlying180 (by kernel_rfl) rfl (by decide)
theorem fld200_0 : fldB Try.prog 200 0 0 = true := by kernel_rfl
theorem fld200_1 : fldB Try.prog 200 1 1 = true := by kernel_rfl
theorem bt200 : BuildTy Try.prog 200 [(0, 1), (1, 1)] [.slice none 0 0, .int .i64 0] := ⟨by kernel_rfl, _, Try.underlying200, fun _ => by kernel_rfl⟩
theorem fld202_0 : fldB Try.prog 202 0 0 = true := by kernel_rfl
theorem fld202_1 : fldB Try.prog 202 1 2 = true := by kernel_rfl
theorem bt202 : BuildTy Try.prog 202 [(0, 2), (2, 1)] [.slice none 0 0, .int .i64 0, .int .i64 0] := ⟨by kernel_rfl, _, Try.underlying202, fun _ => by kernel_rfl⟩
theorem arr203 : ArrTy Try.prog 203 16 108 1 := ⟨Try.underlying203, by kernel_rfl⟩
theorem arr204 : ArrTy Try.prog 204 16 22 1 := ⟨Try.underlying204, by kernel_rfl⟩
theorem fld206_0 : fldB Try.prog 206 0 0 = true := by kernel_rfl
theorem fld206_1 : fldB Try.prog 206 1 16 = true := by kernel_rfl
theorem fld206_2 : fldB Try.prog 206 2 32 = true := by kernel_rfl
theorem bt206 : BuildTy Try.prog 206 [(0, 16), (16, 16), (32, 1)] [.int .u64 0, .int .u64 0, .int .u64 0, .int .u64 0, .int .u64 0, .int .u64 0, .int .u64 0, .int .u64 0, .int .u64 0, .int .u64 0, .int .u64 0, .int .u64 0, .int .u64 0, .int .u64 0, .int .u64 0, .int .u64 0, .slice none 0 0, .slice none 0 0, .slice none 0 0, .slice none 0 0, .slice none 0 0, .slice none 0 0, .slice none 0 0, .slice none 0 0, .slice none 0 0, .slice none 0 0, .slice none 0 0, .slice none 0 0, .slice none 0 0, .slice none 0 0, .slice none 0 0, .slice none 0 0, .int .i64 0] := ⟨by kernel_rfl, _, Try.underlying206, fun _ => by kernel_rfl⟩
theorem arr208 : ArrTy Try.prog 208 32 3 1 := ⟨Try.underlying208, by kernel_rfl⟩
theorem zero208 : (Try.prog.info? 208).map (·.zero) = some (some (.agg #[.int .i64 0, .int .i64 0, .int .i64 0, .int .i64 0, .int .i64 0, .int .i64 0, .int .i64 0, .int .i64 0, .int .i64 0, .int .i64 0, .int .i64 0, .int .i64 0, .int .i64 0, .int .i64 0, .int .i64 0, .int .i64 0, .int .i64 0, .int .i64 0, .int .i64 0, .int .i64 0, .int .i64 0, .int .i64 0, .int .i64 0, .int .i64 0, .int .i64 0, .int .i64 0, .int .i64 0, .int .i64 0, .int .i64 0, .int .i64 0, .int .i64 0, .int .i64 0])) := by kernel_rfl
theorem fld214_0 : fldB Try.prog 214 0 0 = true := by kernel_rfl
theorem bt214 : BuildTy Try.prog 214 [(0, 2)] [.slice none 0 0, .int .i64 0] := ⟨by kernel_rfl, _, Try.underlying214, fun _ => by kernel_rfl⟩
theorem ent20 : Enters Try.prog 20 := .of Try.func20 rfl (by kernel_rfl)
theorem ent21 : Enters Try.prog 21 := .of Try.func21 rfl (by kernel_rfl)
theorem ent22 : Enters Try.prog 22 := .of Try.func22 rfl (by kernel_rfl)
theorem ent24 : Enters Try.prog 24 := .of Try.func24 rfl (by kernel_rfl)
theorem ent25 : Enters Try.prog 25 := .of Try.func25 rfl (by kernel_rfl)
theorem ent26 : Enters Try.prog 26 := .of Try.func26 rfl (by kernel_rfl)
theorem ent27 : Enters Try.prog 27 := .of Try.func27 rfl (by kernel_rfl)
theorem ent28 : Enters Try.prog 28 := .of Try.func28 rfl (by kernel_rfl)
theorem ent29 : Enters Try.prog 29 := .of Try.func29 rfl (by kernel_rfl)
theorem ent30 : Enters Try.prog 30 := .of Try.func30 rfl (by kernel_rfl)
theorem ent31 : Enters Try.prog 31 := .of Try.func31 rfl (by kernel_rfl)
theorem ent57 : Enters Try.prog 57 := .of Try.func57 rfl (by kernel_rfl)
theorem ent58 : Enters Try.prog 58 := .of Try.func58 rfl (by kernel_rfl)
theorem ent59 : Enters Try.prog 59 := .of Try.func59 rfl (by kernel_rfl)
theorem ent60 : Enters Try.prog 60 := .of Try.func60 rfl (by kernel_rfl)
theorem ent61 : Enters Try.prog 61 := .of Try.func61 rfl (by kernel_rfl)
theorem ent62 : Enters Try.prog 62 := .of Try.func62 rfl (by kernel_rfl)
theorem ent63 : Enters Try.prog 63 := .of Try.func63 rfl (by kernel_rfl)
theorem ent64 : Enters Try.prog 64 := .of Try.func64 rfl (by kernel_rfl)
theorem ent65 : Enters Try.prog 65 := .of Try.func65 rfl (by kernel_rfl)
theorem ent66 : Enters Try.prog 66 := .of Try.func66 rfl (by kernel_rfl)
theorem ent67 : Enters Try.prog 67 := .of Try.func67 rfl (by kernel_rfl)
theorem ent68 : Enters Try.prog 68 := .of Try.func68 rfl (by kernel_rfl)
theorem ent83 : Enters Try.prog 83 := .of Try.func83 rfl (by kernel_rfl)
theorem ent87 : Enters Try.prog 87 := .of Try.func87 rfl (by kernel_rfl)
theorem ent93 : Enters Try.prog 93 := .of Try.func93 rfl (by kernel_rfl)
theorem ent96 : Enters Try.prog 96 := .of Try.func96 rfl (by kernel_rfl)
theorem ent97 : Enters Try.prog 97 := .of Try.func97 rfl (by kernel_rfl)
theorem ent98 : Enters Try.prog 98 := .of Try.func98 rfl (by kernel_rfl)
theorem ent99 : Enters Try.prog 99 := .of Try.func99 rfl (by kernel_rfl)
theorem ent100 : Enters Try.prog 100 := .of Try.func100 rfl (by kernel_rfl)
theorem ent101 : Enters Try.prog 101 := .of Try.func101 rfl (by kernel_rfl)
theorem ent102 : Enters Try.prog 102 := .of Try.func102 rfl (by kernel_rfl)
theorem ent103 : Enters Try.prog 103 := .of Try.func103 rfl (by kernel_rfl)
theorem ent104 : Enters Try.prog 104 := .of Try.func104 rfl (by kernel_rfl)
theorem ent105 : Enters Try.prog 105 := .of Try.func105 rfl (by kernel_rfl)
theorem ent106 : Enters Try.prog 106 := .of Try.func106 rfl (by kernel_rfl)
theorem ent107 : Enters Try.prog 107 := .of Try.func107 rfl (by kernel_rfl)
theorem ent108 : Enters Try.prog 108 := .of Try.func108 rfl (by kernel_rfl)
theorem ent109 : Enters Try.prog 109 := .of Try.func109 rfl (by kernel_rfl)
theorem ent110 : Enters Try.prog 110 := .of Try.func110 rfl (by kernel_rfl)
theorem ent120 : Enters Try.prog 120 := .of Try.func120 rfl (by kernel_rfl)
theorem ent122 : Enters Try.prog 122 := .of Try.func122 rfl (by kernel_rfl)
theorem ent124 : Enters Try.prog 124 := .of Try.func124 rfl (by kernel_rfl)
theorem ent125 : Enters Try.prog 125 := .of Try.func125 rfl (by kernel_rfl)
theorem ent126 : Enters Try.prog 126 := .of Try.func126 rfl (by kernel_rfl)
theorem ent127 : Enters Try.prog 127 := .of Try.func127 rfl (by kernel_rfl)
theorem ent128 : Enters Try.prog 128 := .of Try.func128 rfl (by kernel_rfl)
theorem ent129 : Enters Try.prog 129 := .of Try.func129 rfl (by kernel_rfl)
theorem ent130 : Enters Try.prog 130 := .of Try.func130 rfl (by kernel_rfl)
theorem ent131 : Enters Try.prog 131 := .of Try.func131 rfl (by kernel_rfl)
theorem ent132 : Enters Try.prog 132 := .of Try.func132 rfl (by kernel_rfl)
theorem ent133 : Enters Try.prog 133 := .of Try.func133 rfl (by kernel_rfl)
theorem ent134 : Enters Try.prog 134 := .of Try.func134 rfl (by kernel_rfl)
theorem ent135 : Enters Try.prog 135 := .of Try.func135 rfl (by kernel_rfl)
theorem ent136 : Enters Try.prog 136 := .of Try.func136 rfl (by kernel_rfl)
theorem ent137 : Enters Try.prog 137 := .of Try.func137 rfl (by kernel_rfl)
theorem ent138 : Enters Try.prog 138 := .of Try.func138 rfl (by kernel_rfl)
theorem ent139 : Enters Try.prog 139 := .of Try.func139 rfl (by kernel_rfl)
theorem ent140 : Enters Try.prog 140 := .of Try.func140 rfl (by kernel_rfl)
theorem ent141 : Enters Try.prog 141 := .of Try.func141 rfl (by kernel_rfl)
theorem ent142 : Enters Try.prog 142 := .of Try.func142 rfl (by kernel_rfl)
theorem ent143 : Enters Try.prog 143 := .of Try.func143 rfl (by kernel_rfl)
theorem ent144 : Enters Try.prog 144 := .of Try.func144 rfl (by kernel_rfl)
theorem ent145 : Enters Try.prog 145 := .of Try.func145 rfl (by kernel_rfl)
theorem ent146 : Enters Try.prog 146 := .of Try.func146 rfl (by kernel_rfl)
theorem ent147 : Enters Try.prog 147 := .of Try.func147 rfl (by kernel_rfl)
theorem ent148 : Enters Try.prog 148 := .of Try.func148 rfl (by kernel_rfl)
theorem ent149 : Enters Try.prog 149 := .of Try.func149 rfl (by kernel_rfl)
theorem ent150 : Enters Try.prog 150 := .of Try.func150 rfl (by kernel_rfl)
theorem ent162 : Enters Try.prog 162 := .of Try.func162 rfl (by kernel_rfl)
theorem ent165 : Enters Try.prog 165 := .of Try.func165 rfl (by kernel_rfl)
theorem ent166 : Enters Try.prog 166 := .of Try.func166 rfl (by kernel_rfl)
theorem ent167 : Enters Try.prog 167 := .of Try.func167 rfl (by kernel_rfl)
theorem ent168 : Enters Try.prog 168 := .of Try.func168 rfl (by kernel_rfl)
theorem ent169 : Enters Try.prog 169 := .of Try.func169 rfl (by kernel_rfl)
theorem ent170 : Enters Try.prog 170 := .of Try.func170 rfl (by kernel_rfl)
theorem ent171 : Enters Try.prog 171 := .of Try.func171 rfl (by kernel_rfl)
theorem ent172 : Enters Try.prog 172 := .of Try.func172 rfl (by kernel_rfl)
theorem ent173 : Enters Try.prog 173 := .of Try.func173 rfl (by kernel_rfl)
theorem ent174 : Enters Try.prog 174 := .of Try.func174 rfl (by kernel_rfl)
theorem ent175 : Enters Try.prog 175 := .of Try.func175 rfl (by kernel_rfl)
theorem ent176 : Enters Try.prog 176 := .of Try.func176 rfl (by kernel_rfl)
theorem ent177 : Enters Try.prog 177 := .of Try.func177 rfl (by kernel_rfl)
theorem ent178 : Enters Try.prog 178 := .of Try.func178 rfl (by kernel_rfl)
theorem ent193 : Enters Try.prog 193 := .of Try.func193 rfl (by kernel_rfl)
theorem ent194 : Enters Try.prog 194 := .of Try.func194 rfl (by kernel_rfl)
theorem ent195 : Enters Try.prog 195 := .of Try.func195 rfl (by kernel_rfl)
theorem ent196 : Enters Try.prog 196 := .of Try.func196 rfl (by kernel_rfl)
theorem ent197 : Enters Try.prog 197 := .of Try.func197 rfl (by kernel_rfl)
theorem ent198 : Enters Try.prog 198 := .of Try.func198 rfl (by kernel_rfl)
theorem ent203 : Enters Try.prog 203 := .of Try.func203 rfl (by kernel_rfl)
theorem ent204 : Enters Try.prog 204 := .of Try.func204 rfl (by kernel_rfl)
theorem ent205 : Enters Try.prog 205 := .of Try.func205 rfl (by kernel_rfl)
theorem ent206 : Enters Try.prog 206 := .of Try.func206 rfl (by kernel_rfl)
theorem ent208 : Enters Try.prog 208 := .of Try.func208 rfl (by kernel_rfl)
theorem ent209 : Enters Try.prog 209 := .of Try.func209 rfl (by kernel_rfl)
theorem mixed : Try.prog.follows .mixedOrders = true := by kernel_rfl
end Go.Proofs.Ytfhbflhnelbkfaa
