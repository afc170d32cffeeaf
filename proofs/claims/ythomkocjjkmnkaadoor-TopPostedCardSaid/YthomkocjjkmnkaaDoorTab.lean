import Derived.Test.YthomkocjjkmnkaaDoorDraw
import Derived.Test.YthomkocjjkmnkaaDoorProg
import Derived.KernelRfl
/- PRINTED by facts.py (wip/tools): closed facts on the types and the calls of the program. -/
namespace Go.Proofs.YthomkocjjkmnkaaDoor
open Go Go.RowKit
set_option maxRecDepth 100000
theorem mo : Tryd.prog.follows .mixedOrders = true := by kernel_rfl
theorem kind_3 : (Tryd.prog.underlying 3).map TypeDesc.isRow = some false := by kernel_rfl
theorem size_3 : (Tryd.prog.info? 3).map (·.size) = some 1 := by kernel_rfl
theorem kind_4 : (Tryd.prog.underlying 4).map TypeDesc.isRow = some false := by kernel_rfl
theorem size_4 : (Tryd.prog.info? 4).map (·.size) = some 1 := by kernel_rfl
theorem kind_5 : (Tryd.prog.underlying 5).map TypeDesc.isRow = some false := by kernel_rfl
theorem size_5 : (Tryd.prog.info? 5).map (·.size) = some 1 := by kernel_rfl
theorem kind_9 : (Tryd.prog.underlying 9).map TypeDesc.isRow = some false := by kernel_rfl
theorem size_9 : (Tryd.prog.info? 9).map (·.size) = some 1 := by kernel_rfl
theorem kind_26 : (Tryd.prog.underlying 26).map TypeDesc.isRow = some false := by kernel_rfl
theorem size_26 : (Tryd.prog.info? 26).map (·.size) = some 1 := by kernel_rfl
theorem kind_28 : (Tryd.prog.underlying 28).map TypeDesc.isRow = some true := by kernel_rfl
theorem size_28 : (Tryd.prog.info? 28).map (·.size) = some 4 := by kernel_rfl
theorem kind_33 : (Tryd.prog.underlying 33).map TypeDesc.isRow = some false := by kernel_rfl
theorem size_33 : (Tryd.prog.info? 33).map (·.size) = some 1 := by kernel_rfl
theorem kind_35 : (Tryd.prog.underlying 35).map TypeDesc.isRow = some true := by kernel_rfl
theorem size_35 : (Tryd.prog.info? 35).map (·.size) = some 5 := by kernel_rfl
theorem kind_37 : (Tryd.prog.underlying 37).map TypeDesc.isRow = some true := by kernel_rfl
theorem size_37 : (Tryd.prog.info? 37).map (·.size) = some 5 := by kernel_rfl
theorem kind_49 : (Tryd.prog.underlying 49).map TypeDesc.isRow = some false := by kernel_rfl
theorem size_49 : (Tryd.prog.info? 49).map (·.size) = some 1 := by kernel_rfl
theorem kind_50 : (Tryd.prog.underlying 50).map TypeDesc.isRow = some false := by kernel_rfl
theorem size_50 : (Tryd.prog.info? 50).map (·.size) = some 1 := by kernel_rfl
theorem kind_54 : (Tryd.prog.underlying 54).map TypeDesc.isRow = some true := by kernel_rfl
theorem size_54 : (Tryd.prog.info? 54).map (·.size) = some 32 := by kernel_rfl
theorem kind_56 : (Tryd.prog.underlying 56).map TypeDesc.isRow = some false := by kernel_rfl
theorem size_56 : (Tryd.prog.info? 56).map (·.size) = some 1 := by kernel_rfl
theorem kind_57 : (Tryd.prog.underlying 57).map TypeDesc.isRow = some false := by kernel_rfl
theorem size_57 : (Tryd.prog.info? 57).map (·.size) = some 1 := by kernel_rfl
theorem kind_58 : (Tryd.prog.underlying 58).map TypeDesc.isRow = some true := by kernel_rfl
theorem size_58 : (Tryd.prog.info? 58).map (·.size) = some 4 := by kernel_rfl
theorem kind_61 : (Tryd.prog.underlying 61).map TypeDesc.isRow = some true := by kernel_rfl
theorem size_61 : (Tryd.prog.info? 61).map (·.size) = some 3 := by kernel_rfl
theorem kind_68 : (Tryd.prog.underlying 68).map TypeDesc.isRow = some false := by kernel_rfl
theorem size_68 : (Tryd.prog.info? 68).map (·.size) = some 1 := by kernel_rfl
theorem kind_78 : (Tryd.prog.underlying 78).map TypeDesc.isRow = some true := by kernel_rfl
theorem size_78 : (Tryd.prog.info? 78).map (·.size) = some 4 := by kernel_rfl
theorem kind_79 : (Tryd.prog.underlying 79).map TypeDesc.isRow = some false := by kernel_rfl
theorem size_79 : (Tryd.prog.info? 79).map (·.size) = some 1 := by kernel_rfl
theorem kind_81 : (Tryd.prog.underlying 81).map TypeDesc.isRow = some true := by kernel_rfl
theorem size_81 : (Tryd.prog.info? 81).map (·.size) = some 6 := by kernel_rfl
theorem kind_85 : (Tryd.prog.underlying 85).map TypeDesc.isRow = some true := by kernel_rfl
theorem size_85 : (Tryd.prog.info? 85).map (·.size) = some 8 := by kernel_rfl
theorem kind_103 : (Tryd.prog.underlying 103).map TypeDesc.isRow = some true := by kernel_rfl
theorem size_103 : (Tryd.prog.info? 103).map (·.size) = some 1 := by kernel_rfl
theorem kind_109 : (Tryd.prog.underlying 109).map TypeDesc.isRow = some false := by kernel_rfl
theorem size_109 : (Tryd.prog.info? 109).map (·.size) = some 1 := by kernel_rfl
theorem kind_110 : (Tryd.prog.underlying 110).map TypeDesc.isRow = some false := by kernel_rfl
theorem size_110 : (Tryd.prog.info? 110).map (·.size) = some 1 := by kernel_rfl
theorem kind_111 : (Tryd.prog.underlying 111).map TypeDesc.isRow = some false := by kernel_rfl
theorem size_111 : (Tryd.prog.info? 111).map (·.size) = some 1 := by kernel_rfl
theorem kind_112 : (Tryd.prog.underlying 112).map TypeDesc.isRow = some false := by kernel_rfl
theorem size_112 : (Tryd.prog.info? 112).map (·.size) = some 1 := by kernel_rfl
theorem kind_114 : (Tryd.prog.underlying 114).map TypeDesc.isRow = some true := by kernel_rfl
theorem size_114 : (Tryd.prog.info? 114).map (·.size) = some 7 := by kernel_rfl
theorem kind_116 : (Tryd.prog.underlying 116).map TypeDesc.isRow = some false := by kernel_rfl
theorem size_116 : (Tryd.prog.info? 116).map (·.size) = some 1 := by kernel_rfl
theorem kind_119 : (Tryd.prog.underlying 119).map TypeDesc.isRow = some true := by kernel_rfl
theorem size_119 : (Tryd.prog.info? 119).map (·.size) = some 2 := by kernel_rfl
theorem kind_132 : (Tryd.prog.underlying 132).map TypeDesc.isRow = some true := by kernel_rfl
theorem size_132 : (Tryd.prog.info? 132).map (·.size) = some 4 := by kernel_rfl
theorem kind_135 : (Tryd.prog.underlying 135).map TypeDesc.isRow = some true := by kernel_rfl
theorem size_135 : (Tryd.prog.info? 135).map (·.size) = some 3 := by kernel_rfl
theorem kind_154 : (Tryd.prog.underlying 154).map TypeDesc.isRow = some true := by kernel_rfl
theorem size_154 : (Tryd.prog.info? 154).map (·.size) = some 5 := by kernel_rfl
theorem kind_161 : (Tryd.prog.underlying 161).map TypeDesc.isRow = some false := by kernel_rfl
theorem size_161 : (Tryd.prog.info? 161).map (·.size) = some 1 := by kernel_rfl
theorem kind_163 : (Tryd.prog.underlying 163).map TypeDesc.isRow = some true := by kernel_rfl
theorem size_163 : (Tryd.prog.info? 163).map (·.size) = some 3 := by kernel_rfl
theorem kind_164 : (Tryd.prog.underlying 164).map TypeDesc.isRow = some false := by kernel_rfl
theorem size_164 : (Tryd.prog.info? 164).map (·.size) = some 1 := by kernel_rfl
theorem kind_166 : (Tryd.prog.underlying 166).map TypeDesc.isRow = some true := by kernel_rfl
theorem size_166 : (Tryd.prog.info? 166).map (·.size) = some 8 := by kernel_rfl
theorem kind_170 : (Tryd.prog.underlying 170).map TypeDesc.isRow = some false := by kernel_rfl
theorem size_170 : (Tryd.prog.info? 170).map (·.size) = some 1 := by kernel_rfl
theorem kind_185 : (Tryd.prog.underlying 185).map TypeDesc.isRow = some false := by kernel_rfl
theorem size_185 : (Tryd.prog.info? 185).map (·.size) = some 1 := by kernel_rfl
theorem kind_187 : (Tryd.prog.underlying 187).map TypeDesc.isRow = some true := by kernel_rfl
theorem size_187 : (Tryd.prog.info? 187).map (·.size) = some 6 := by kernel_rfl
theorem kind_200 : (Tryd.prog.underlying 200).map TypeDesc.isRow = some false := by kernel_rfl
theorem size_200 : (Tryd.prog.info? 200).map (·.size) = some 1 := by kernel_rfl
theorem kind_201 : (Tryd.prog.underlying 201).map TypeDesc.isRow = some false := by kernel_rfl
theorem size_201 : (Tryd.prog.info? 201).map (·.size) = some 1 := by kernel_rfl
theorem kind_202 : (Tryd.prog.underlying 202).map TypeDesc.isRow = some false := by kernel_rfl
theorem size_202 : (Tryd.prog.info? 202).map (·.size) = some 1 := by kernel_rfl
theorem kind_204 : (Tryd.prog.underlying 204).map TypeDesc.isRow = some true := by kernel_rfl
theorem size_204 : (Tryd.prog.info? 204).map (·.size) = some 6 := by kernel_rfl
theorem kind_207 : (Tryd.prog.underlying 207).map TypeDesc.isRow = some true := by kernel_rfl
theorem size_207 : (Tryd.prog.info? 207).map (·.size) = some 2 := by kernel_rfl
theorem kind_208 : (Tryd.prog.underlying 208).map TypeDesc.isRow = some true := by kernel_rfl
theorem size_208 : (Tryd.prog.info? 208).map (·.size) = some 2 := by kernel_rfl
theorem kind_210 : (Tryd.prog.underlying 210).map TypeDesc.isRow = some true := by kernel_rfl
theorem size_210 : (Tryd.prog.info? 210).map (·.size) = some 5 := by kernel_rfl
theorem kind_214 : (Tryd.prog.underlying 214).map TypeDesc.isRow = some true := by kernel_rfl
theorem size_214 : (Tryd.prog.info? 214).map (·.size) = some 3 := by kernel_rfl
theorem kind_221 : (Tryd.prog.underlying 221).map TypeDesc.isRow = some false := by kernel_rfl
theorem size_221 : (Tryd.prog.info? 221).map (·.size) = some 1 := by kernel_rfl
theorem kind_224 : (Tryd.prog.underlying 224).map TypeDesc.isRow = some true := by kernel_rfl
theorem size_224 : (Tryd.prog.info? 224).map (·.size) = some 2 := by kernel_rfl
theorem kind_229 : (Tryd.prog.underlying 229).map TypeDesc.isRow = some false := by kernel_rfl
theorem size_229 : (Tryd.prog.info? 229).map (·.size) = some 1 := by kernel_rfl
theorem kind_231 : (Tryd.prog.underlying 231).map TypeDesc.isRow = some true := by kernel_rfl
theorem size_231 : (Tryd.prog.info? 231).map (·.size) = some 5 := by kernel_rfl
theorem kind_232 : (Tryd.prog.underlying 232).map TypeDesc.isRow = some false := by kernel_rfl
theorem size_232 : (Tryd.prog.info? 232).map (·.size) = some 1 := by kernel_rfl
theorem kind_234 : (Tryd.prog.underlying 234).map TypeDesc.isRow = some true := by kernel_rfl
theorem size_234 : (Tryd.prog.info? 234).map (·.size) = some 4 := by kernel_rfl
theorem kind_238 : (Tryd.prog.underlying 238).map TypeDesc.isRow = some true := by kernel_rfl
theorem size_238 : (Tryd.prog.info? 238).map (·.size) = some 4 := by kernel_rfl
theorem kind_242 : (Tryd.prog.underlying 242).map TypeDesc.isRow = some true := by kernel_rfl
theorem size_242 : (Tryd.prog.info? 242).map (·.size) = some 1 := by kernel_rfl
theorem kind_247 : (Tryd.prog.underlying 247).map TypeDesc.isRow = some true := by kernel_rfl
theorem size_247 : (Tryd.prog.info? 247).map (·.size) = some 64 := by kernel_rfl
theorem kind_273 : (Tryd.prog.underlying 273).map TypeDesc.isRow = some true := by kernel_rfl
theorem size_273 : (Tryd.prog.info? 273).map (·.size) = some 3 := by kernel_rfl
theorem kind_285 : (Tryd.prog.underlying 285).map TypeDesc.isRow = some false := by kernel_rfl
theorem size_285 : (Tryd.prog.info? 285).map (·.size) = some 1 := by kernel_rfl
theorem kind_286 : (Tryd.prog.underlying 286).map TypeDesc.isRow = some false := by kernel_rfl
theorem size_286 : (Tryd.prog.info? 286).map (·.size) = some 1 := by kernel_rfl
theorem kind_347 : (Tryd.prog.underlying 347).map TypeDesc.isRow = some false := by kernel_rfl
theorem size_347 : (Tryd.prog.info? 347).map (·.size) = some 1 := by kernel_rfl
theorem zero_3 : (Tryd.prog.info? 3).map (·.zero) = some (some (.int .i64 0)) := by kernel_rfl
theorem zero_28 : (Tryd.prog.info? 28).map (·.zero) = some (some (.agg #[.slice none 0 0, .int .i64 0, .int .i64 0, .int .i64 0])) := by kernel_rfl
theorem zero_35 : (Tryd.prog.info? 35).map (·.zero) = some (some (.agg #[.int .i64 0, .int .i64 0, .int .i64 0, .int .i64 0, .slice none 0 0])) := by kernel_rfl
theorem zero_37 : (Tryd.prog.info? 37).map (·.zero) = some (some (.agg #[.int .i64 0, .int .i64 0, .int .i64 0, .int .i64 0, .slice none 0 0])) := by kernel_rfl
theorem zero_54 : (Tryd.prog.info? 54).map (·.zero) = some (some (.agg #[.int .u8 0, .int .u8 0, .int .u8 0, .int .u8 0, .int .u8 0, .int .u8 0, .int .u8 0, .int .u8 0, .int .u8 0, .int .u8 0, .int .u8 0, .int .u8 0, .int .u8 0, .int .u8 0, .int .u8 0, .int .u8 0, .int .u8 0, .int .u8 0, .int .u8 0, .int .u8 0, .int .u8 0, .int .u8 0, .int .u8 0, .int .u8 0, .int .u8 0, .int .u8 0, .int .u8 0, .int .u8 0, .int .u8 0, .int .u8 0, .int .u8 0, .int .u8 0])) := by kernel_rfl
theorem zero_58 : (Tryd.prog.info? 58).map (·.zero) = some (some (.agg #[.slice none 0 0, .slice none 0 0, .slice none 0 0, .slice none 0 0])) := by kernel_rfl
theorem zero_61 : (Tryd.prog.info? 61).map (·.zero) = some (some (.agg #[.int .i64 0, .int .i64 0, .bool false])) := by kernel_rfl
theorem zero_78 : (Tryd.prog.info? 78).map (·.zero) = some (some (.agg #[.int .i64 0, .int .i64 0, .int .i64 0, .int .i64 0])) := by kernel_rfl
theorem zero_81 : (Tryd.prog.info? 81).map (·.zero) = some (some (.agg #[.int .i64 0, .int .i64 0, .int .i64 0, .int .i64 0, .slice none 0 0, .int .i64 0])) := by kernel_rfl
theorem zero_85 : (Tryd.prog.info? 85).map (·.zero) = some (some (.agg #[.int .i64 0, .int .i64 0, .int .i64 0, .int .i64 0, .int .i64 0, .int .i64 0, .int .i64 0, .int .i64 0])) := by kernel_rfl
theorem zero_103 : (Tryd.prog.info? 103).map (·.zero) = some (some (.agg #[.int .u64 0])) := by kernel_rfl
theorem zero_114 : (Tryd.prog.info? 114).map (·.zero) = some (some (.agg #[.slice none 0 0, .map none, .map none, .slice none 0 0, .slice none 0 0, .slice none 0 0, .bool false])) := by kernel_rfl
theorem zero_119 : (Tryd.prog.info? 119).map (·.zero) = some (some (.agg #[.slice none 0 0, .slice none 0 0])) := by kernel_rfl
theorem zero_132 : (Tryd.prog.info? 132).map (·.zero) = some (some (.agg #[.int .i64 0, .int .i64 0, .int .i64 0, .int .i64 0])) := by kernel_rfl
theorem zero_135 : (Tryd.prog.info? 135).map (·.zero) = some (some (.agg #[.int .i64 0, .int .i64 0, .bool false])) := by kernel_rfl
theorem zero_154 : (Tryd.prog.info? 154).map (·.zero) = some (some (.agg #[.int .i64 0, .int .i64 0, .slice none 0 0, .int .i64 0, .int .i64 0])) := by kernel_rfl
theorem zero_163 : (Tryd.prog.info? 163).map (·.zero) = some (some (.agg #[.int .i64 0, .int .i64 0, .map none])) := by kernel_rfl
theorem zero_166 : (Tryd.prog.info? 166).map (·.zero) = some (some (.agg #[.int .u32 0, .int .u32 0, .int .u32 0, .int .u32 0, .int .u32 0, .int .u32 0, .int .u32 0, .int .u32 0])) := by kernel_rfl
theorem zero_187 : (Tryd.prog.info? 187).map (·.zero) = some (some (.agg #[.int .i64 0, .int .i64 0, .int .i64 0, .int .i64 0, .int .i64 0, .map none])) := by kernel_rfl
theorem zero_204 : (Tryd.prog.info? 204).map (·.zero) = some (some (.agg #[.int .i64 0, .map none, .slice none 0 0, .slice none 0 0, .slice none 0 0, .bool false])) := by kernel_rfl
theorem zero_207 : (Tryd.prog.info? 207).map (·.zero) = some (some (.agg #[.string ByteArray.empty, .string ByteArray.empty])) := by kernel_rfl
theorem zero_208 : (Tryd.prog.info? 208).map (·.zero) = some (some (.agg #[.int .i64 0, .int .i64 0])) := by kernel_rfl
theorem zero_210 : (Tryd.prog.info? 210).map (·.zero) = some (some (.agg #[.string ByteArray.empty, .string ByteArray.empty, .int .i64 0, .int .i64 0, .int .i64 0])) := by kernel_rfl
theorem zero_214 : (Tryd.prog.info? 214).map (·.zero) = some (some (.agg #[.int .i64 0, .int .i64 0, .slice none 0 0])) := by kernel_rfl
theorem zero_221 : (Tryd.prog.info? 221).map (·.zero) = some (some (.pointer none)) := by kernel_rfl
theorem zero_224 : (Tryd.prog.info? 224).map (·.zero) = some (some (.agg #[.slice none 0 0, .slice none 0 0])) := by kernel_rfl
theorem zero_231 : (Tryd.prog.info? 231).map (·.zero) = some (some (.agg #[.int .i64 0, .int .i64 0, .int .i64 0, .int .i64 0, .map none])) := by kernel_rfl
theorem zero_234 : (Tryd.prog.info? 234).map (·.zero) = some (some (.agg #[.int .i64 0, .int .i64 0, .int .i64 0, .map none])) := by kernel_rfl
theorem zero_238 : (Tryd.prog.info? 238).map (·.zero) = some (some (.agg #[.int .i64 0, .int .i64 0, .int .i64 0, .int .i64 0])) := by kernel_rfl
theorem zero_242 : (Tryd.prog.info? 242).map (·.zero) = some (some (.agg #[.int .u64 0])) := by kernel_rfl
theorem zero_247 : (Tryd.prog.info? 247).map (·.zero) = some (some (.agg #[.int .u32 0, .int .u32 0, .int .u32 0, .int .u32 0, .int .u32 0, .int .u32 0, .int .u32 0, .int .u32 0, .int .u32 0, .int .u32 0, .int .u32 0, .int .u32 0, .int .u32 0, .int .u32 0, .int .u32 0, .int .u32 0, .int .u32 0, .int .u32 0, .int .u32 0, .int .u32 0, .int .u32 0, .int .u32 0, .int .u32 0, .int .u32 0, .int .u32 0, .int .u32 0, .int .u32 0, .int .u32 0, .int .u32 0, .int .u32 0, .int .u32 0, .int .u32 0, .int .u32 0, .int .u32 0, .int .u32 0, .int .u32 0, .int .u32 0, .int .u32 0, .int .u32 0, .int .u32 0, .int .u32 0, .int .u32 0, .int .u32 0, .int .u32 0, .int .u32 0, .int .u32 0, .int .u32 0, .int .u32 0, .int .u32 0, .int .u32 0, .int .u32 0, .int .u32 0, .int .u32 0, .int .u32 0, .int .u32 0, .int .u32 0, .int .u32 0, .int .u32 0, .int .u32 0, .int .u32 0, .int .u32 0, .int .u32 0, .int .u32 0, .int .u32 0])) := by kernel_rfl
theorem zero_273 : (Tryd.prog.info? 273).map (·.zero) = some (some (.agg #[.pointer none, .int .i64 0, .slice none 0 0])) := by kernel_rfl
theorem zero_285 : (Tryd.prog.info? 285).map (·.zero) = some (some (.nilFunc)) := by kernel_rfl
theorem zero_347 : (Tryd.prog.info? 347).map (·.zero) = some (some (.int .u64 0)) := by kernel_rfl
theorem pl_28 : placesOf Tryd.prog 28 = some [(0, 1), (1, 1), (2, 1), (3, 1)] := by kernel_rfl
theorem pl_37 : placesOf Tryd.prog 37 = some [(0, 1), (1, 1), (2, 1), (3, 1), (4, 1)] := by kernel_rfl
theorem pl_61 : placesOf Tryd.prog 61 = some [(0, 1), (1, 1), (2, 1)] := by kernel_rfl
theorem pl_78 : placesOf Tryd.prog 78 = some [(0, 1), (1, 1), (2, 1), (3, 1)] := by kernel_rfl
theorem pl_81 : placesOf Tryd.prog 81 = some [(0, 4), (4, 1), (5, 1)] := by kernel_rfl
theorem pl_103 : placesOf Tryd.prog 103 = some [(0, 1)] := by kernel_rfl
theorem pl_114 : placesOf Tryd.prog 114 = some [(0, 1), (1, 1), (2, 1), (3, 1), (4, 1), (5, 1), (6, 1)] := by kernel_rfl
theorem pl_119 : placesOf Tryd.prog 119 = some [(0, 1), (1, 1)] := by kernel_rfl
theorem pl_132 : placesOf Tryd.prog 132 = some [(0, 1), (1, 1), (2, 1), (3, 1)] := by kernel_rfl
theorem pl_135 : placesOf Tryd.prog 135 = some [(0, 1), (1, 1), (2, 1)] := by kernel_rfl
theorem pl_154 : placesOf Tryd.prog 154 = some [(0, 1), (1, 1), (2, 1), (3, 1), (4, 1)] := by kernel_rfl
theorem pl_163 : placesOf Tryd.prog 163 = some [(0, 1), (1, 1), (2, 1)] := by kernel_rfl
theorem pl_187 : placesOf Tryd.prog 187 = some [(0, 4), (4, 1), (5, 1)] := by kernel_rfl
theorem pl_204 : placesOf Tryd.prog 204 = some [(0, 1), (1, 1), (2, 1), (3, 1), (4, 1), (5, 1)] := by kernel_rfl
theorem pl_210 : placesOf Tryd.prog 210 = some [(0, 2), (2, 2), (4, 1)] := by kernel_rfl
theorem pl_214 : placesOf Tryd.prog 214 = some [(0, 1), (1, 1), (2, 1)] := by kernel_rfl
theorem pl_224 : placesOf Tryd.prog 224 = some [(0, 1), (1, 1)] := by kernel_rfl
theorem pl_231 : placesOf Tryd.prog 231 = some [(0, 1), (1, 1), (2, 1), (3, 1), (4, 1)] := by kernel_rfl
theorem pl_234 : placesOf Tryd.prog 234 = some [(0, 1), (1, 1), (2, 1), (3, 1)] := by kernel_rfl
theorem pl_238 : placesOf Tryd.prog 238 = some [(0, 1), (1, 1), (2, 1), (3, 1)] := by kernel_rfl
theorem pl_242 : placesOf Tryd.prog 242 = some [(0, 1)] := by kernel_rfl
theorem pl_273 : placesOf Tryd.prog 273 = some [(0, 1), (1, 1), (2, 1)] := by kernel_rfl
theorem fo_28_0 : fieldOff Tryd.prog 28 0 = some 0 := by kernel_rfl
theorem fo_28_1 : fieldOff Tryd.prog 28 1 = some 1 := by kernel_rfl
theorem fo_28_2 : fieldOff Tryd.prog 28 2 = some 2 := by kernel_rfl
theorem fo_28_3 : fieldOff Tryd.prog 28 3 = some 3 := by kernel_rfl
theorem fo_35_0 : fieldOff Tryd.prog 35 0 = some 0 := by kernel_rfl
theorem fo_35_1 : fieldOff Tryd.prog 35 1 = some 1 := by kernel_rfl
theorem fo_35_2 : fieldOff Tryd.prog 35 2 = some 2 := by kernel_rfl
theorem fo_35_3 : fieldOff Tryd.prog 35 3 = some 3 := by kernel_rfl
theorem fo_35_4 : fieldOff Tryd.prog 35 4 = some 4 := by kernel_rfl
theorem fo_37_0 : fieldOff Tryd.prog 37 0 = some 0 := by kernel_rfl
theorem fo_37_1 : fieldOff Tryd.prog 37 1 = some 1 := by kernel_rfl
theorem fo_37_2 : fieldOff Tryd.prog 37 2 = some 2 := by kernel_rfl
theorem fo_37_3 : fieldOff Tryd.prog 37 3 = some 3 := by kernel_rfl
theorem fo_37_4 : fieldOff Tryd.prog 37 4 = some 4 := by kernel_rfl
theorem fo_61_0 : fieldOff Tryd.prog 61 0 = some 0 := by kernel_rfl
theorem fo_61_1 : fieldOff Tryd.prog 61 1 = some 1 := by kernel_rfl
theorem fo_61_2 : fieldOff Tryd.prog 61 2 = some 2 := by kernel_rfl
theorem fo_78_0 : fieldOff Tryd.prog 78 0 = some 0 := by kernel_rfl
theorem fo_78_1 : fieldOff Tryd.prog 78 1 = some 1 := by kernel_rfl
theorem fo_78_2 : fieldOff Tryd.prog 78 2 = some 2 := by kernel_rfl
theorem fo_78_3 : fieldOff Tryd.prog 78 3 = some 3 := by kernel_rfl
theorem fo_81_0 : fieldOff Tryd.prog 81 0 = some 0 := by kernel_rfl
theorem fo_81_1 : fieldOff Tryd.prog 81 1 = some 4 := by kernel_rfl
theorem fo_81_2 : fieldOff Tryd.prog 81 2 = some 5 := by kernel_rfl
theorem fo_103_0 : fieldOff Tryd.prog 103 0 = some 0 := by kernel_rfl
theorem fo_114_0 : fieldOff Tryd.prog 114 0 = some 0 := by kernel_rfl
theorem fo_114_1 : fieldOff Tryd.prog 114 1 = some 1 := by kernel_rfl
theorem fo_114_2 : fieldOff Tryd.prog 114 2 = some 2 := by kernel_rfl
theorem fo_114_3 : fieldOff Tryd.prog 114 3 = some 3 := by kernel_rfl
theorem fo_114_4 : fieldOff Tryd.prog 114 4 = some 4 := by kernel_rfl
theorem fo_114_5 : fieldOff Tryd.prog 114 5 = some 5 := by kernel_rfl
theorem fo_114_6 : fieldOff Tryd.prog 114 6 = some 6 := by kernel_rfl
theorem fo_119_0 : fieldOff Tryd.prog 119 0 = some 0 := by kernel_rfl
theorem fo_119_1 : fieldOff Tryd.prog 119 1 = some 1 := by kernel_rfl
theorem fo_132_0 : fieldOff Tryd.prog 132 0 = some 0 := by kernel_rfl
theorem fo_132_1 : fieldOff Tryd.prog 132 1 = some 1 := by kernel_rfl
theorem fo_132_2 : fieldOff Tryd.prog 132 2 = some 2 := by kernel_rfl
theorem fo_132_3 : fieldOff Tryd.prog 132 3 = some 3 := by kernel_rfl
theorem fo_135_0 : fieldOff Tryd.prog 135 0 = some 0 := by kernel_rfl
theorem fo_135_1 : fieldOff Tryd.prog 135 1 = some 1 := by kernel_rfl
theorem fo_135_2 : fieldOff Tryd.prog 135 2 = some 2 := by kernel_rfl
theorem fo_154_0 : fieldOff Tryd.prog 154 0 = some 0 := by kernel_rfl
theorem fo_154_1 : fieldOff Tryd.prog 154 1 = some 1 := by kernel_rfl
theorem fo_154_2 : fieldOff Tryd.prog 154 2 = some 2 := by kernel_rfl
theorem fo_154_3 : fieldOff Tryd.prog 154 3 = some 3 := by kernel_rfl
theorem fo_154_4 : fieldOff Tryd.prog 154 4 = some 4 := by kernel_rfl
theorem fo_163_0 : fieldOff Tryd.prog 163 0 = some 0 := by kernel_rfl
theorem fo_163_1 : fieldOff Tryd.prog 163 1 = some 1 := by kernel_rfl
theorem fo_163_2 : fieldOff Tryd.prog 163 2 = some 2 := by kernel_rfl
theorem fo_187_0 : fieldOff Tryd.prog 187 0 = some 0 := by kernel_rfl
theorem fo_187_1 : fieldOff Tryd.prog 187 1 = some 4 := by kernel_rfl
theorem fo_187_2 : fieldOff Tryd.prog 187 2 = some 5 := by kernel_rfl
theorem fo_204_0 : fieldOff Tryd.prog 204 0 = some 0 := by kernel_rfl
theorem fo_204_1 : fieldOff Tryd.prog 204 1 = some 1 := by kernel_rfl
theorem fo_204_2 : fieldOff Tryd.prog 204 2 = some 2 := by kernel_rfl
theorem fo_204_3 : fieldOff Tryd.prog 204 3 = some 3 := by kernel_rfl
theorem fo_204_4 : fieldOff Tryd.prog 204 4 = some 4 := by kernel_rfl
theorem fo_204_5 : fieldOff Tryd.prog 204 5 = some 5 := by kernel_rfl
theorem fo_210_0 : fieldOff Tryd.prog 210 0 = some 0 := by kernel_rfl
theorem fo_210_1 : fieldOff Tryd.prog 210 1 = some 2 := by kernel_rfl
theorem fo_210_2 : fieldOff Tryd.prog 210 2 = some 4 := by kernel_rfl
theorem fo_214_0 : fieldOff Tryd.prog 214 0 = some 0 := by kernel_rfl
theorem fo_214_1 : fieldOff Tryd.prog 214 1 = some 1 := by kernel_rfl
theorem fo_214_2 : fieldOff Tryd.prog 214 2 = some 2 := by kernel_rfl
theorem fo_224_0 : fieldOff Tryd.prog 224 0 = some 0 := by kernel_rfl
theorem fo_224_1 : fieldOff Tryd.prog 224 1 = some 1 := by kernel_rfl
theorem fo_231_0 : fieldOff Tryd.prog 231 0 = some 0 := by kernel_rfl
theorem fo_231_1 : fieldOff Tryd.prog 231 1 = some 1 := by kernel_rfl
theorem fo_231_2 : fieldOff Tryd.prog 231 2 = some 2 := by kernel_rfl
theorem fo_231_3 : fieldOff Tryd.prog 231 3 = some 3 := by kernel_rfl
theorem fo_231_4 : fieldOff Tryd.prog 231 4 = some 4 := by kernel_rfl
theorem fo_234_0 : fieldOff Tryd.prog 234 0 = some 0 := by kernel_rfl
theorem fo_234_1 : fieldOff Tryd.prog 234 1 = some 1 := by kernel_rfl
theorem fo_234_2 : fieldOff Tryd.prog 234 2 = some 2 := by kernel_rfl
theorem fo_234_3 : fieldOff Tryd.prog 234 3 = some 3 := by kernel_rfl
theorem fo_238_0 : fieldOff Tryd.prog 238 0 = some 0 := by kernel_rfl
theorem fo_238_1 : fieldOff Tryd.prog 238 1 = some 1 := by kernel_rfl
theorem fo_238_2 : fieldOff Tryd.prog 238 2 = some 2 := by kernel_rfl
theorem fo_238_3 : fieldOff Tryd.prog 238 3 = some 3 := by kernel_rfl
theorem fo_242_0 : fieldOff Tryd.prog 242 0 = some 0 := by kernel_rfl
theorem fo_273_0 : fieldOff Tryd.prog 273 0 = some 0 := by kernel_rfl
theorem fo_273_1 : fieldOff Tryd.prog 273 1 = some 1 := by kernel_rfl
theorem fo_273_2 : fieldOff Tryd.prog 273 2 = some 2 := by kernel_rfl
theorem us_9 : Tryd.prog.underlying 9 = some .string := by kernel_rfl
theorem ul_22 : Tryd.prog.underlying 22 = some (.slice 35) := by kernel_rfl
theorem es_22 : elemSize Tryd.prog 22 = some 5 := by kernel_rfl
theorem ei_22 : elemInfo Tryd.prog 22 = some (35, 5, 56, some (.agg #[.int .i64 0, .int .i64 0, .int .i64 0, .int .i64 0, .slice none 0 0])) := by kernel_rfl
theorem ul_26 : Tryd.prog.underlying 26 = some (.slice 37) := by kernel_rfl
theorem es_26 : elemSize Tryd.prog 26 = some 5 := by kernel_rfl
theorem ei_26 : elemInfo Tryd.prog 26 = some (37, 5, 56, some (.agg #[.int .i64 0, .int .i64 0, .int .i64 0, .int .i64 0, .slice none 0 0])) := by kernel_rfl
theorem ul_33 : Tryd.prog.underlying 33 = some (.slice 5) := by kernel_rfl
theorem es_33 : elemSize Tryd.prog 33 = some 1 := by kernel_rfl
theorem ei_33 : elemInfo Tryd.prog 33 = some (5, 1, 1, some (.int .u8 0)) := by kernel_rfl
theorem as_54 : arrSize Tryd.prog 54 = some (32, 1) := by kernel_rfl
theorem ul_56 : Tryd.prog.underlying 56 = some (.slice 54) := by kernel_rfl
theorem es_56 : elemSize Tryd.prog 56 = some 32 := by kernel_rfl
theorem ei_56 : elemInfo Tryd.prog 56 = some (54, 32, 32, some (.agg #[.int .u8 0, .int .u8 0, .int .u8 0, .int .u8 0, .int .u8 0, .int .u8 0, .int .u8 0, .int .u8 0, .int .u8 0, .int .u8 0, .int .u8 0, .int .u8 0, .int .u8 0, .int .u8 0, .int .u8 0, .int .u8 0, .int .u8 0, .int .u8 0, .int .u8 0, .int .u8 0, .int .u8 0, .int .u8 0, .int .u8 0, .int .u8 0, .int .u8 0, .int .u8 0, .int .u8 0, .int .u8 0, .int .u8 0, .int .u8 0, .int .u8 0, .int .u8 0])) := by kernel_rfl
theorem ul_57 : Tryd.prog.underlying 57 = some (.slice 61) := by kernel_rfl
theorem es_57 : elemSize Tryd.prog 57 = some 3 := by kernel_rfl
theorem ei_57 : elemInfo Tryd.prog 57 = some (61, 3, 24, some (.agg #[.int .i64 0, .int .i64 0, .bool false])) := by kernel_rfl
theorem as_58 : arrSize Tryd.prog 58 = some (4, 1) := by kernel_rfl
theorem ul_68 : Tryd.prog.underlying 68 = some (.slice 3) := by kernel_rfl
theorem es_68 : elemSize Tryd.prog 68 = some 1 := by kernel_rfl
theorem ei_68 : elemInfo Tryd.prog 68 = some (3, 1, 8, some (.int .i64 0)) := by kernel_rfl
theorem ul_79 : Tryd.prog.underlying 79 = some (.slice 78) := by kernel_rfl
theorem es_79 : elemSize Tryd.prog 79 = some 4 := by kernel_rfl
theorem ei_79 : elemInfo Tryd.prog 79 = some (78, 4, 32, some (.agg #[.int .i64 0, .int .i64 0, .int .i64 0, .int .i64 0])) := by kernel_rfl
theorem as_85 : arrSize Tryd.prog 85 = some (8, 1) := by kernel_rfl
theorem um_109 : Tryd.prog.underlying 109 = some (.map 9 3) := by kernel_rfl
theorem ul_110 : Tryd.prog.underlying 110 = some (.slice 119) := by kernel_rfl
theorem es_110 : elemSize Tryd.prog 110 = some 2 := by kernel_rfl
theorem ei_110 : elemInfo Tryd.prog 110 = some (119, 2, 48, some (.agg #[.slice none 0 0, .slice none 0 0])) := by kernel_rfl
theorem ul_111 : Tryd.prog.underlying 111 = some (.slice 214) := by kernel_rfl
theorem es_111 : elemSize Tryd.prog 111 = some 3 := by kernel_rfl
theorem ei_111 : elemInfo Tryd.prog 111 = some (214, 3, 40, some (.agg #[.int .i64 0, .int .i64 0, .slice none 0 0])) := by kernel_rfl
theorem ul_112 : Tryd.prog.underlying 112 = some (.slice 210) := by kernel_rfl
theorem es_112 : elemSize Tryd.prog 112 = some 5 := by kernel_rfl
theorem ei_112 : elemInfo Tryd.prog 112 = some (210, 5, 56, some (.agg #[.string ByteArray.empty, .string ByteArray.empty, .int .i64 0, .int .i64 0, .int .i64 0])) := by kernel_rfl
theorem ul_116 : Tryd.prog.underlying 116 = some (.slice 9) := by kernel_rfl
theorem es_116 : elemSize Tryd.prog 116 = some 1 := by kernel_rfl
theorem ei_116 : elemInfo Tryd.prog 116 = some (9, 1, 16, some (.string ByteArray.empty)) := by kernel_rfl
theorem ul_130 : Tryd.prog.underlying 130 = some (.slice 132) := by kernel_rfl
theorem es_130 : elemSize Tryd.prog 130 = some 4 := by kernel_rfl
theorem ei_130 : elemInfo Tryd.prog 130 = some (132, 4, 32, some (.agg #[.int .i64 0, .int .i64 0, .int .i64 0, .int .i64 0])) := by kernel_rfl
theorem ul_133 : Tryd.prog.underlying 133 = some (.slice 135) := by kernel_rfl
theorem es_133 : elemSize Tryd.prog 133 = some 3 := by kernel_rfl
theorem ei_133 : elemInfo Tryd.prog 133 = some (135, 3, 24, some (.agg #[.int .i64 0, .int .i64 0, .bool false])) := by kernel_rfl
theorem um_161 : Tryd.prog.underlying 161 = some (.map 54 170) := by kernel_rfl
theorem as_166 : arrSize Tryd.prog 166 = some (8, 1) := by kernel_rfl
theorem um_170 : Tryd.prog.underlying 170 = some (.map 3 61) := by kernel_rfl
theorem um_185 : Tryd.prog.underlying 185 = some (.map 3 78) := by kernel_rfl
theorem um_200 : Tryd.prog.underlying 200 = some (.map 9 221) := by kernel_rfl
theorem ul_201 : Tryd.prog.underlying 201 = some (.slice 200) := by kernel_rfl
theorem es_201 : elemSize Tryd.prog 201 = some 1 := by kernel_rfl
theorem ei_201 : elemInfo Tryd.prog 201 = some (200, 1, 8, some (.map none)) := by kernel_rfl
theorem ul_202 : Tryd.prog.underlying 202 = some (.slice 273) := by kernel_rfl
theorem es_202 : elemSize Tryd.prog 202 = some 3 := by kernel_rfl
theorem ei_202 : elemInfo Tryd.prog 202 = some (273, 3, 40, some (.agg #[.pointer none, .int .i64 0, .slice none 0 0])) := by kernel_rfl
theorem as_207 : arrSize Tryd.prog 207 = some (2, 1) := by kernel_rfl
theorem as_208 : arrSize Tryd.prog 208 = some (2, 1) := by kernel_rfl
theorem um_229 : Tryd.prog.underlying 229 = some (.map 3 4) := by kernel_rfl
theorem um_232 : Tryd.prog.underlying 232 = some (.map 3 238) := by kernel_rfl
theorem as_247 : arrSize Tryd.prog 247 = some (64, 1) := by kernel_rfl
theorem ul_286 : Tryd.prog.underlying 286 = some (.slice 238) := by kernel_rfl
theorem es_286 : elemSize Tryd.prog 286 = some 4 := by kernel_rfl
theorem ei_286 : elemInfo Tryd.prog 286 = some (238, 4, 32, some (.agg #[.int .i64 0, .int .i64 0, .int .i64 0, .int .i64 0])) := by kernel_rfl
theorem ui_3 : Tryd.prog.underlying 3 = some (.int .i64) := by kernel_rfl
theorem ui_5 : Tryd.prog.underlying 5 = some (.int .u8) := by kernel_rfl
theorem ui_30 : Tryd.prog.underlying 30 = some (.int .i64) := by kernel_rfl
theorem ui_49 : Tryd.prog.underlying 49 = some (.int .u64) := by kernel_rfl
theorem ui_164 : Tryd.prog.underlying 164 = some (.int .u32) := by kernel_rfl
theorem ui_168 : Tryd.prog.underlying 168 = some (.int .u64) := by kernel_rfl
theorem ui_315 : Tryd.prog.underlying 315 = some (.int .i64) := by kernel_rfl
theorem ui_347 : Tryd.prog.underlying 347 = some (.int .u64) := by kernel_rfl
section
variable {σ : Env} {w : World} {dst : Option Nat} {ty : TypeId} {pos : String} {aft : Array Edge} {xs : Array Operand} {ats : Array TypeId}
theorem c2 {vs : List Value} (hv : xs.toList.map (ev σ) = vs) : (execOp (ev σ) ⟨dst, .call ⟨.value (.func 2), xs, ats⟩, ty, pos, aft, none⟩).run Tryd.prog w = .ok (.enter 2 vs.toArray) w := x_call Tryd.func2 (by kernel_rfl) rfl hv
theorem c3 {vs : List Value} (hv : xs.toList.map (ev σ) = vs) : (execOp (ev σ) ⟨dst, .call ⟨.value (.func 3), xs, ats⟩, ty, pos, aft, none⟩).run Tryd.prog w = .ok (.enter 3 vs.toArray) w := x_call Tryd.func3 (by kernel_rfl) rfl hv
theorem c4 {vs : List Value} (hv : xs.toList.map (ev σ) = vs) : (execOp (ev σ) ⟨dst, .call ⟨.value (.func 4), xs, ats⟩, ty, pos, aft, none⟩).run Tryd.prog w = .ok (.enter 4 vs.toArray) w := x_call Tryd.func4 (by kernel_rfl) rfl hv
theorem c5 {vs : List Value} (hv : xs.toList.map (ev σ) = vs) : (execOp (ev σ) ⟨dst, .call ⟨.value (.func 5), xs, ats⟩, ty, pos, aft, none⟩).run Tryd.prog w = .ok (.enter 5 vs.toArray) w := x_call Tryd.func5 (by kernel_rfl) rfl hv
theorem c6 {vs : List Value} (hv : xs.toList.map (ev σ) = vs) : (execOp (ev σ) ⟨dst, .call ⟨.value (.func 6), xs, ats⟩, ty, pos, aft, none⟩).run Tryd.prog w = .ok (.enter 6 vs.toArray) w := x_call Tryd.func6 (by kernel_rfl) rfl hv
theorem c7 {vs : List Value} (hv : xs.toList.map (ev σ) = vs) : (execOp (ev σ) ⟨dst, .call ⟨.value (.func 7), xs, ats⟩, ty, pos, aft, none⟩).run Tryd.prog w = .ok (.enter 7 vs.toArray) w := x_call Tryd.func7 (by kernel_rfl) rfl hv
theorem c8 {vs : List Value} (hv : xs.toList.map (ev σ) = vs) : (execOp (ev σ) ⟨dst, .call ⟨.value (.func 8), xs, ats⟩, ty, pos, aft, none⟩).run Tryd.prog w = .ok (.enter 8 vs.toArray) w := x_call Tryd.func8 (by kernel_rfl) rfl hv
theorem c9 {vs : List Value} (hv : xs.toList.map (ev σ) = vs) : (execOp (ev σ) ⟨dst, .call ⟨.value (.func 9), xs, ats⟩, ty, pos, aft, none⟩).run Tryd.prog w = .ok (.enter 9 vs.toArray) w := x_call Tryd.func9 (by kernel_rfl) rfl hv
theorem c10 {vs : List Value} (hv : xs.toList.map (ev σ) = vs) : (execOp (ev σ) ⟨dst, .call ⟨.value (.func 10), xs, ats⟩, ty, pos, aft, none⟩).run Tryd.prog w = .ok (.enter 10 vs.toArray) w := x_call Tryd.func10 (by kernel_rfl) rfl hv
theorem c11 {vs : List Value} (hv : xs.toList.map (ev σ) = vs) : (execOp (ev σ) ⟨dst, .call ⟨.value (.func 11), xs, ats⟩, ty, pos, aft, none⟩).run Tryd.prog w = .ok (.enter 11 vs.toArray) w := x_call Tryd.func11 (by kernel_rfl) rfl hv
theorem c12 {vs : List Value} (hv : xs.toList.map (ev σ) = vs) : (execOp (ev σ) ⟨dst, .call ⟨.value (.func 12), xs, ats⟩, ty, pos, aft, none⟩).run Tryd.prog w = .ok (.enter 12 vs.toArray) w := x_call Tryd.func12 (by kernel_rfl) rfl hv
theorem c13 {vs : List Value} (hv : xs.toList.map (ev σ) = vs) : (execOp (ev σ) ⟨dst, .call ⟨.value (.func 13), xs, ats⟩, ty, pos, aft, none⟩).run Tryd.prog w = .ok (.enter 13 vs.toArray) w := x_call Tryd.func13 (by kernel_rfl) rfl hv
theorem c14 {vs : List Value} (hv : xs.toList.map (ev σ) = vs) : (execOp (ev σ) ⟨dst, .call ⟨.value (.func 14), xs, ats⟩, ty, pos, aft, none⟩).run Tryd.prog w = .ok (.enter 14 vs.toArray) w := x_call Tryd.func14 (by kernel_rfl) rfl hv
theorem c15 {vs : List Value} (hv : xs.toList.map (ev σ) = vs) : (execOp (ev σ) ⟨dst, .call ⟨.value (.func 15), xs, ats⟩, ty, pos, aft, none⟩).run Tryd.prog w = .ok (.enter 15 vs.toArray) w := x_call Tryd.func15 (by kernel_rfl) rfl hv
theorem c16 {vs : List Value} (hv : xs.toList.map (ev σ) = vs) : (execOp (ev σ) ⟨dst, .call ⟨.value (.func 16), xs, ats⟩, ty, pos, aft, none⟩).run Tryd.prog w = .ok (.enter 16 vs.toArray) w := x_call Tryd.func16 (by kernel_rfl) rfl hv
theorem c17 {vs : List Value} (hv : xs.toList.map (ev σ) = vs) : (execOp (ev σ) ⟨dst, .call ⟨.value (.func 17), xs, ats⟩, ty, pos, aft, none⟩).run Tryd.prog w = .ok (.enter 17 vs.toArray) w := x_call Tryd.func17 (by kernel_rfl) rfl hv
theorem c18 {vs : List Value} (hv : xs.toList.map (ev σ) = vs) : (execOp (ev σ) ⟨dst, .call ⟨.value (.func 18), xs, ats⟩, ty, pos, aft, none⟩).run Tryd.prog w = .ok (.enter 18 vs.toArray) w := x_call Tryd.func18 (by kernel_rfl) rfl hv
theorem c19 {vs : List Value} (hv : xs.toList.map (ev σ) = vs) : (execOp (ev σ) ⟨dst, .call ⟨.value (.func 19), xs, ats⟩, ty, pos, aft, none⟩).run Tryd.prog w = .ok (.enter 19 vs.toArray) w := x_call Tryd.func19 (by kernel_rfl) rfl hv
theorem c20 {vs : List Value} (hv : xs.toList.map (ev σ) = vs) : (execOp (ev σ) ⟨dst, .call ⟨.value (.func 20), xs, ats⟩, ty, pos, aft, none⟩).run Tryd.prog w = .ok (.enter 20 vs.toArray) w := x_call Tryd.func20 (by kernel_rfl) rfl hv
theorem c21 {vs : List Value} (hv : xs.toList.map (ev σ) = vs) : (execOp (ev σ) ⟨dst, .call ⟨.value (.func 21), xs, ats⟩, ty, pos, aft, none⟩).run Tryd.prog w = .ok (.enter 21 vs.toArray) w := x_call Tryd.func21 (by kernel_rfl) rfl hv
theorem c22 {vs : List Value} (hv : xs.toList.map (ev σ) = vs) : (execOp (ev σ) ⟨dst, .call ⟨.value (.func 22), xs, ats⟩, ty, pos, aft, none⟩).run Tryd.prog w = .ok (.enter 22 vs.toArray) w := x_call Tryd.func22 (by kernel_rfl) rfl hv
theorem c23 {vs : List Value} (hv : xs.toList.map (ev σ) = vs) : (execOp (ev σ) ⟨dst, .call ⟨.value (.func 23), xs, ats⟩, ty, pos, aft, none⟩).run Tryd.prog w = .ok (.enter 23 vs.toArray) w := x_call Tryd.func23 (by kernel_rfl) rfl hv
theorem c24 {vs : List Value} (hv : xs.toList.map (ev σ) = vs) : (execOp (ev σ) ⟨dst, .call ⟨.value (.func 24), xs, ats⟩, ty, pos, aft, none⟩).run Tryd.prog w = .ok (.enter 24 vs.toArray) w := x_call Tryd.func24 (by kernel_rfl) rfl hv
theorem c25 {vs : List Value} (hv : xs.toList.map (ev σ) = vs) : (execOp (ev σ) ⟨dst, .call ⟨.value (.func 25), xs, ats⟩, ty, pos, aft, none⟩).run Tryd.prog w = .ok (.enter 25 vs.toArray) w := x_call Tryd.func25 (by kernel_rfl) rfl hv
theorem c26 {vs : List Value} (hv : xs.toList.map (ev σ) = vs) : (execOp (ev σ) ⟨dst, .call ⟨.value (.func 26), xs, ats⟩, ty, pos, aft, none⟩).run Tryd.prog w = .ok (.enter 26 vs.toArray) w := x_call Tryd.func26 (by kernel_rfl) rfl hv
theorem c27 {vs : List Value} (hv : xs.toList.map (ev σ) = vs) : (execOp (ev σ) ⟨dst, .call ⟨.value (.func 27), xs, ats⟩, ty, pos, aft, none⟩).run Tryd.prog w = .ok (.enter 27 vs.toArray) w := x_call Tryd.func27 (by kernel_rfl) rfl hv
theorem c28 {vs : List Value} (hv : xs.toList.map (ev σ) = vs) : (execOp (ev σ) ⟨dst, .call ⟨.value (.func 28), xs, ats⟩, ty, pos, aft, none⟩).run Tryd.prog w = .ok (.enter 28 vs.toArray) w := x_call Tryd.func28 (by kernel_rfl) rfl hv
theorem c29 {vs : List Value} (hv : xs.toList.map (ev σ) = vs) : (execOp (ev σ) ⟨dst, .call ⟨.value (.func 29), xs, ats⟩, ty, pos, aft, none⟩).run Tryd.prog w = .ok (.enter 29 vs.toArray) w := x_call Tryd.func29 (by kernel_rfl) rfl hv
theorem c30 {vs : List Value} (hv : xs.toList.map (ev σ) = vs) : (execOp (ev σ) ⟨dst, .call ⟨.value (.func 30), xs, ats⟩, ty, pos, aft, none⟩).run Tryd.prog w = .ok (.enter 30 vs.toArray) w := x_call Tryd.func30 (by kernel_rfl) rfl hv
theorem c31 {vs : List Value} (hv : xs.toList.map (ev σ) = vs) : (execOp (ev σ) ⟨dst, .call ⟨.value (.func 31), xs, ats⟩, ty, pos, aft, none⟩).run Tryd.prog w = .ok (.enter 31 vs.toArray) w := x_call Tryd.func31 (by kernel_rfl) rfl hv
theorem c32 {vs : List Value} (hv : xs.toList.map (ev σ) = vs) : (execOp (ev σ) ⟨dst, .call ⟨.value (.func 32), xs, ats⟩, ty, pos, aft, none⟩).run Tryd.prog w = .ok (.enter 32 vs.toArray) w := x_call Tryd.func32 (by kernel_rfl) rfl hv
theorem c33 {vs : List Value} (hv : xs.toList.map (ev σ) = vs) : (execOp (ev σ) ⟨dst, .call ⟨.value (.func 33), xs, ats⟩, ty, pos, aft, none⟩).run Tryd.prog w = .ok (.enter 33 vs.toArray) w := x_call Tryd.func33 (by kernel_rfl) rfl hv
theorem c34 {vs : List Value} (hv : xs.toList.map (ev σ) = vs) : (execOp (ev σ) ⟨dst, .call ⟨.value (.func 34), xs, ats⟩, ty, pos, aft, none⟩).run Tryd.prog w = .ok (.enter 34 vs.toArray) w := x_call Tryd.func34 (by kernel_rfl) rfl hv
theorem c35 {vs : List Value} (hv : xs.toList.map (ev σ) = vs) : (execOp (ev σ) ⟨dst, .call ⟨.value (.func 35), xs, ats⟩, ty, pos, aft, none⟩).run Tryd.prog w = .ok (.enter 35 vs.toArray) w := x_call Tryd.func35 (by kernel_rfl) rfl hv
theorem c36 {vs : List Value} (hv : xs.toList.map (ev σ) = vs) : (execOp (ev σ) ⟨dst, .call ⟨.value (.func 36), xs, ats⟩, ty, pos, aft, none⟩).run Tryd.prog w = .ok (.enter 36 vs.toArray) w := x_call Tryd.func36 (by kernel_rfl) rfl hv
theorem c37 {vs : List Value} (hv : xs.toList.map (ev σ) = vs) : (execOp (ev σ) ⟨dst, .call ⟨.value (.func 37), xs, ats⟩, ty, pos, aft, none⟩).run Tryd.prog w = .ok (.enter 37 vs.toArray) w := x_call Tryd.func37 (by kernel_rfl) rfl hv
theorem c38 {vs : List Value} (hv : xs.toList.map (ev σ) = vs) : (execOp (ev σ) ⟨dst, .call ⟨.value (.func 38), xs, ats⟩, ty, pos, aft, none⟩).run Tryd.prog w = .ok (.enter 38 vs.toArray) w := x_call Tryd.func38 (by kernel_rfl) rfl hv
theorem c39 {vs : List Value} (hv : xs.toList.map (ev σ) = vs) : (execOp (ev σ) ⟨dst, .call ⟨.value (.func 39), xs, ats⟩, ty, pos, aft, none⟩).run Tryd.prog w = .ok (.enter 39 vs.toArray) w := x_call Tryd.func39 (by kernel_rfl) rfl hv
theorem c40 {vs : List Value} (hv : xs.toList.map (ev σ) = vs) : (execOp (ev σ) ⟨dst, .call ⟨.value (.func 40), xs, ats⟩, ty, pos, aft, none⟩).run Tryd.prog w = .ok (.enter 40 vs.toArray) w := x_call Tryd.func40 (by kernel_rfl) rfl hv
theorem c41 {vs : List Value} (hv : xs.toList.map (ev σ) = vs) : (execOp (ev σ) ⟨dst, .call ⟨.value (.func 41), xs, ats⟩, ty, pos, aft, none⟩).run Tryd.prog w = .ok (.enter 41 vs.toArray) w := x_call Tryd.func41 (by kernel_rfl) rfl hv
theorem c42 {vs : List Value} (hv : xs.toList.map (ev σ) = vs) : (execOp (ev σ) ⟨dst, .call ⟨.value (.func 42), xs, ats⟩, ty, pos, aft, none⟩).run Tryd.prog w = .ok (.enter 42 vs.toArray) w := x_call Tryd.func42 (by kernel_rfl) rfl hv
theorem c43 {vs : List Value} (hv : xs.toList.map (ev σ) = vs) : (execOp (ev σ) ⟨dst, .call ⟨.value (.func 43), xs, ats⟩, ty, pos, aft, none⟩).run Tryd.prog w = .ok (.enter 43 vs.toArray) w := x_call Tryd.func43 (by kernel_rfl) rfl hv
theorem c44 {vs : List Value} (hv : xs.toList.map (ev σ) = vs) : (execOp (ev σ) ⟨dst, .call ⟨.value (.func 44), xs, ats⟩, ty, pos, aft, none⟩).run Tryd.prog w = .ok (.enter 44 vs.toArray) w := x_call Tryd.func44 (by kernel_rfl) rfl hv
theorem c45 {vs : List Value} (hv : xs.toList.map (ev σ) = vs) : (execOp (ev σ) ⟨dst, .call ⟨.value (.func 45), xs, ats⟩, ty, pos, aft, none⟩).run Tryd.prog w = .ok (.enter 45 vs.toArray) w := x_call Tryd.func45 (by kernel_rfl) rfl hv
theorem c46 {vs : List Value} (hv : xs.toList.map (ev σ) = vs) : (execOp (ev σ) ⟨dst, .call ⟨.value (.func 46), xs, ats⟩, ty, pos, aft, none⟩).run Tryd.prog w = .ok (.enter 46 vs.toArray) w := x_call Tryd.func46 (by kernel_rfl) rfl hv
theorem c47 {vs : List Value} (hv : xs.toList.map (ev σ) = vs) : (execOp (ev σ) ⟨dst, .call ⟨.value (.func 47), xs, ats⟩, ty, pos, aft, none⟩).run Tryd.prog w = .ok (.enter 47 vs.toArray) w := x_call Tryd.func47 (by kernel_rfl) rfl hv
theorem c48 {vs : List Value} (hv : xs.toList.map (ev σ) = vs) : (execOp (ev σ) ⟨dst, .call ⟨.value (.func 48), xs, ats⟩, ty, pos, aft, none⟩).run Tryd.prog w = .ok (.enter 48 vs.toArray) w := x_call Tryd.func48 (by kernel_rfl) rfl hv
theorem c49 {vs : List Value} (hv : xs.toList.map (ev σ) = vs) : (execOp (ev σ) ⟨dst, .call ⟨.value (.func 49), xs, ats⟩, ty, pos, aft, none⟩).run Tryd.prog w = .ok (.enter 49 vs.toArray) w := x_call Tryd.func49 (by kernel_rfl) rfl hv
theorem c50 {vs : List Value} (hv : xs.toList.map (ev σ) = vs) : (execOp (ev σ) ⟨dst, .call ⟨.value (.func 50), xs, ats⟩, ty, pos, aft, none⟩).run Tryd.prog w = .ok (.enter 50 vs.toArray) w := x_call Tryd.func50 (by kernel_rfl) rfl hv
theorem c51 {vs : List Value} (hv : xs.toList.map (ev σ) = vs) : (execOp (ev σ) ⟨dst, .call ⟨.value (.func 51), xs, ats⟩, ty, pos, aft, none⟩).run Tryd.prog w = .ok (.enter 51 vs.toArray) w := x_call Tryd.func51 (by kernel_rfl) rfl hv
theorem c52 {vs : List Value} (hv : xs.toList.map (ev σ) = vs) : (execOp (ev σ) ⟨dst, .call ⟨.value (.func 52), xs, ats⟩, ty, pos, aft, none⟩).run Tryd.prog w = .ok (.enter 52 vs.toArray) w := x_call Tryd.func52 (by kernel_rfl) rfl hv
theorem c53 {vs : List Value} (hv : xs.toList.map (ev σ) = vs) : (execOp (ev σ) ⟨dst, .call ⟨.value (.func 53), xs, ats⟩, ty, pos, aft, none⟩).run Tryd.prog w = .ok (.enter 53 vs.toArray) w := x_call Tryd.func53 (by kernel_rfl) rfl hv
theorem c54 {vs : List Value} (hv : xs.toList.map (ev σ) = vs) : (execOp (ev σ) ⟨dst, .call ⟨.value (.func 54), xs, ats⟩, ty, pos, aft, none⟩).run Tryd.prog w = .ok (.enter 54 vs.toArray) w := x_call Tryd.func54 (by kernel_rfl) rfl hv
theorem c55 {vs : List Value} (hv : xs.toList.map (ev σ) = vs) : (execOp (ev σ) ⟨dst, .call ⟨.value (.func 55), xs, ats⟩, ty, pos, aft, none⟩).run Tryd.prog w = .ok (.enter 55 vs.toArray) w := x_call Tryd.func55 (by kernel_rfl) rfl hv
theorem c56 {vs : List Value} (hv : xs.toList.map (ev σ) = vs) : (execOp (ev σ) ⟨dst, .call ⟨.value (.func 56), xs, ats⟩, ty, pos, aft, none⟩).run Tryd.prog w = .ok (.enter 56 vs.toArray) w := x_call Tryd.func56 (by kernel_rfl) rfl hv
theorem c57 {vs : List Value} (hv : xs.toList.map (ev σ) = vs) : (execOp (ev σ) ⟨dst, .call ⟨.value (.func 57), xs, ats⟩, ty, pos, aft, none⟩).run Tryd.prog w = .ok (.enter 57 vs.toArray) w := x_call Tryd.func57 (by kernel_rfl) rfl hv
theorem c58 {vs : List Value} (hv : xs.toList.map (ev σ) = vs) : (execOp (ev σ) ⟨dst, .call ⟨.value (.func 58), xs, ats⟩, ty, pos, aft, none⟩).run Tryd.prog w = .ok (.enter 58 vs.toArray) w := x_call Tryd.func58 (by kernel_rfl) rfl hv
theorem c59 {vs : List Value} (hv : xs.toList.map (ev σ) = vs) : (execOp (ev σ) ⟨dst, .call ⟨.value (.func 59), xs, ats⟩, ty, pos, aft, none⟩).run Tryd.prog w = .ok (.enter 59 vs.toArray) w := x_call Tryd.func59 (by kernel_rfl) rfl hv
theorem c60 {vs : List Value} (hv : xs.toList.map (ev σ) = vs) : (execOp (ev σ) ⟨dst, .call ⟨.value (.func 60), xs, ats⟩, ty, pos, aft, none⟩).run Tryd.prog w = .ok (.enter 60 vs.toArray) w := x_call Tryd.func60 (by kernel_rfl) rfl hv
theorem c61 {vs : List Value} (hv : xs.toList.map (ev σ) = vs) : (execOp (ev σ) ⟨dst, .call ⟨.value (.func 61), xs, ats⟩, ty, pos, aft, none⟩).run Tryd.prog w = .ok (.enter 61 vs.toArray) w := x_call Tryd.func61 (by kernel_rfl) rfl hv
theorem c62 {vs : List Value} (hv : xs.toList.map (ev σ) = vs) : (execOp (ev σ) ⟨dst, .call ⟨.value (.func 62), xs, ats⟩, ty, pos, aft, none⟩).run Tryd.prog w = .ok (.enter 62 vs.toArray) w := x_call Tryd.func62 (by kernel_rfl) rfl hv
theorem c63 {vs : List Value} (hv : xs.toList.map (ev σ) = vs) : (execOp (ev σ) ⟨dst, .call ⟨.value (.func 63), xs, ats⟩, ty, pos, aft, none⟩).run Tryd.prog w = .ok (.enter 63 vs.toArray) w := x_call Tryd.func63 (by kernel_rfl) rfl hv
theorem c64 {vs : List Value} (hv : xs.toList.map (ev σ) = vs) : (execOp (ev σ) ⟨dst, .call ⟨.value (.func 64), xs, ats⟩, ty, pos, aft, none⟩).run Tryd.prog w = .ok (.enter 64 vs.toArray) w := x_call Tryd.func64 (by kernel_rfl) rfl hv
theorem c65 {vs : List Value} (hv : xs.toList.map (ev σ) = vs) : (execOp (ev σ) ⟨dst, .call ⟨.value (.func 65), xs, ats⟩, ty, pos, aft, none⟩).run Tryd.prog w = .ok (.enter 65 vs.toArray) w := x_call Tryd.func65 (by kernel_rfl) rfl hv
theorem c66 {vs : List Value} (hv : xs.toList.map (ev σ) = vs) : (execOp (ev σ) ⟨dst, .call ⟨.value (.func 66), xs, ats⟩, ty, pos, aft, none⟩).run Tryd.prog w = .ok (.enter 66 vs.toArray) w := x_call Tryd.func66 (by kernel_rfl) rfl hv
theorem c67 {vs : List Value} (hv : xs.toList.map (ev σ) = vs) : (execOp (ev σ) ⟨dst, .call ⟨.value (.func 67), xs, ats⟩, ty, pos, aft, none⟩).run Tryd.prog w = .ok (.enter 67 vs.toArray) w := x_call Tryd.func67 (by kernel_rfl) rfl hv
theorem c68 {vs : List Value} (hv : xs.toList.map (ev σ) = vs) : (execOp (ev σ) ⟨dst, .call ⟨.value (.func 68), xs, ats⟩, ty, pos, aft, none⟩).run Tryd.prog w = .ok (.enter 68 vs.toArray) w := x_call Tryd.func68 (by kernel_rfl) rfl hv
theorem c69 {vs : List Value} (hv : xs.toList.map (ev σ) = vs) : (execOp (ev σ) ⟨dst, .call ⟨.value (.func 69), xs, ats⟩, ty, pos, aft, none⟩).run Tryd.prog w = .ok (.enter 69 vs.toArray) w := x_call Tryd.func69 (by kernel_rfl) rfl hv
theorem c70 {vs : List Value} (hv : xs.toList.map (ev σ) = vs) : (execOp (ev σ) ⟨dst, .call ⟨.value (.func 70), xs, ats⟩, ty, pos, aft, none⟩).run Tryd.prog w = .ok (.enter 70 vs.toArray) w := x_call Tryd.func70 (by kernel_rfl) rfl hv
theorem c71 {vs : List Value} (hv : xs.toList.map (ev σ) = vs) : (execOp (ev σ) ⟨dst, .call ⟨.value (.func 71), xs, ats⟩, ty, pos, aft, none⟩).run Tryd.prog w = .ok (.enter 71 vs.toArray) w := x_call Tryd.func71 (by kernel_rfl) rfl hv
theorem c72 {vs : List Value} (hv : xs.toList.map (ev σ) = vs) : (execOp (ev σ) ⟨dst, .call ⟨.value (.func 72), xs, ats⟩, ty, pos, aft, none⟩).run Tryd.prog w = .ok (.enter 72 vs.toArray) w := x_call Tryd.func72 (by kernel_rfl) rfl hv
theorem c73 {vs : List Value} (hv : xs.toList.map (ev σ) = vs) : (execOp (ev σ) ⟨dst, .call ⟨.value (.func 73), xs, ats⟩, ty, pos, aft, none⟩).run Tryd.prog w = .ok (.enter 73 vs.toArray) w := x_call Tryd.func73 (by kernel_rfl) rfl hv
theorem c74 {vs : List Value} (hv : xs.toList.map (ev σ) = vs) : (execOp (ev σ) ⟨dst, .call ⟨.value (.func 74), xs, ats⟩, ty, pos, aft, none⟩).run Tryd.prog w = .ok (.enter 74 vs.toArray) w := x_call Tryd.func74 (by kernel_rfl) rfl hv
theorem c75 {vs : List Value} (hv : xs.toList.map (ev σ) = vs) : (execOp (ev σ) ⟨dst, .call ⟨.value (.func 75), xs, ats⟩, ty, pos, aft, none⟩).run Tryd.prog w = .ok (.enter 75 vs.toArray) w := x_call Tryd.func75 (by kernel_rfl) rfl hv
theorem c76 {vs : List Value} (hv : xs.toList.map (ev σ) = vs) : (execOp (ev σ) ⟨dst, .call ⟨.value (.func 76), xs, ats⟩, ty, pos, aft, none⟩).run Tryd.prog w = .ok (.enter 76 vs.toArray) w := x_call Tryd.func76 (by kernel_rfl) rfl hv
theorem c77 {vs : List Value} (hv : xs.toList.map (ev σ) = vs) : (execOp (ev σ) ⟨dst, .call ⟨.value (.func 77), xs, ats⟩, ty, pos, aft, none⟩).run Tryd.prog w = .ok (.enter 77 vs.toArray) w := x_call Tryd.func77 (by kernel_rfl) rfl hv
theorem c78 {vs : List Value} (hv : xs.toList.map (ev σ) = vs) : (execOp (ev σ) ⟨dst, .call ⟨.value (.func 78), xs, ats⟩, ty, pos, aft, none⟩).run Tryd.prog w = .ok (.enter 78 vs.toArray) w := x_call Tryd.func78 (by kernel_rfl) rfl hv
theorem c79 {vs : List Value} (hv : xs.toList.map (ev σ) = vs) : (execOp (ev σ) ⟨dst, .call ⟨.value (.func 79), xs, ats⟩, ty, pos, aft, none⟩).run Tryd.prog w = .ok (.enter 79 vs.toArray) w := x_call Tryd.func79 (by kernel_rfl) rfl hv
theorem c80 {vs : List Value} (hv : xs.toList.map (ev σ) = vs) : (execOp (ev σ) ⟨dst, .call ⟨.value (.func 80), xs, ats⟩, ty, pos, aft, none⟩).run Tryd.prog w = .ok (.enter 80 vs.toArray) w := x_call Tryd.func80 (by kernel_rfl) rfl hv
theorem c81 {vs : List Value} (hv : xs.toList.map (ev σ) = vs) : (execOp (ev σ) ⟨dst, .call ⟨.value (.func 81), xs, ats⟩, ty, pos, aft, none⟩).run Tryd.prog w = .ok (.enter 81 vs.toArray) w := x_call Tryd.func81 (by kernel_rfl) rfl hv
theorem c82 {vs : List Value} (hv : xs.toList.map (ev σ) = vs) : (execOp (ev σ) ⟨dst, .call ⟨.value (.func 82), xs, ats⟩, ty, pos, aft, none⟩).run Tryd.prog w = .ok (.enter 82 vs.toArray) w := x_call Tryd.func82 (by kernel_rfl) rfl hv
theorem c83 {vs : List Value} (hv : xs.toList.map (ev σ) = vs) : (execOp (ev σ) ⟨dst, .call ⟨.value (.func 83), xs, ats⟩, ty, pos, aft, none⟩).run Tryd.prog w = .ok (.enter 83 vs.toArray) w := x_call Tryd.func83 (by kernel_rfl) rfl hv
theorem c84 {vs : List Value} (hv : xs.toList.map (ev σ) = vs) : (execOp (ev σ) ⟨dst, .call ⟨.value (.func 84), xs, ats⟩, ty, pos, aft, none⟩).run Tryd.prog w = .ok (.enter 84 vs.toArray) w := x_call Tryd.func84 (by kernel_rfl) rfl hv
theorem c85 {vs : List Value} (hv : xs.toList.map (ev σ) = vs) : (execOp (ev σ) ⟨dst, .call ⟨.value (.func 85), xs, ats⟩, ty, pos, aft, none⟩).run Tryd.prog w = .ok (.enter 85 vs.toArray) w := x_call Tryd.func85 (by kernel_rfl) rfl hv
theorem c86 {vs : List Value} (hv : xs.toList.map (ev σ) = vs) : (execOp (ev σ) ⟨dst, .call ⟨.value (.func 86), xs, ats⟩, ty, pos, aft, none⟩).run Tryd.prog w = .ok (.enter 86 vs.toArray) w := x_call Tryd.func86 (by kernel_rfl) rfl hv
theorem c87 {vs : List Value} (hv : xs.toList.map (ev σ) = vs) : (execOp (ev σ) ⟨dst, .call ⟨.value (.func 87), xs, ats⟩, ty, pos, aft, none⟩).run Tryd.prog w = .ok (.enter 87 vs.toArray) w := x_call Tryd.func87 (by kernel_rfl) rfl hv
theorem c88 {vs : List Value} (hv : xs.toList.map (ev σ) = vs) : (execOp (ev σ) ⟨dst, .call ⟨.value (.func 88), xs, ats⟩, ty, pos, aft, none⟩).run Tryd.prog w = .ok (.enter 88 vs.toArray) w := x_call Tryd.func88 (by kernel_rfl) rfl hv
theorem c89 {vs : List Value} (hv : xs.toList.map (ev σ) = vs) : (execOp (ev σ) ⟨dst, .call ⟨.value (.func 89), xs, ats⟩, ty, pos, aft, none⟩).run Tryd.prog w = .ok (.enter 89 vs.toArray) w := x_call Tryd.func89 (by kernel_rfl) rfl hv
theorem c90 {vs : List Value} (hv : xs.toList.map (ev σ) = vs) : (execOp (ev σ) ⟨dst, .call ⟨.value (.func 90), xs, ats⟩, ty, pos, aft, none⟩).run Tryd.prog w = .ok (.enter 90 vs.toArray) w := x_call Tryd.func90 (by kernel_rfl) rfl hv
theorem c91 {vs : List Value} (hv : xs.toList.map (ev σ) = vs) : (execOp (ev σ) ⟨dst, .call ⟨.value (.func 91), xs, ats⟩, ty, pos, aft, none⟩).run Tryd.prog w = .ok (.enter 91 vs.toArray) w := x_call Tryd.func91 (by kernel_rfl) rfl hv
theorem c92 {vs : List Value} (hv : xs.toList.map (ev σ) = vs) : (execOp (ev σ) ⟨dst, .call ⟨.value (.func 92), xs, ats⟩, ty, pos, aft, none⟩).run Tryd.prog w = .ok (.enter 92 vs.toArray) w := x_call Tryd.func92 (by kernel_rfl) rfl hv
theorem c93 {vs : List Value} (hv : xs.toList.map (ev σ) = vs) : (execOp (ev σ) ⟨dst, .call ⟨.value (.func 93), xs, ats⟩, ty, pos, aft, none⟩).run Tryd.prog w = .ok (.enter 93 vs.toArray) w := x_call Tryd.func93 (by kernel_rfl) rfl hv
theorem c94 {vs : List Value} (hv : xs.toList.map (ev σ) = vs) : (execOp (ev σ) ⟨dst, .call ⟨.value (.func 94), xs, ats⟩, ty, pos, aft, none⟩).run Tryd.prog w = .ok (.enter 94 vs.toArray) w := x_call Tryd.func94 (by kernel_rfl) rfl hv
theorem c95 {vs : List Value} (hv : xs.toList.map (ev σ) = vs) : (execOp (ev σ) ⟨dst, .call ⟨.value (.func 95), xs, ats⟩, ty, pos, aft, none⟩).run Tryd.prog w = .ok (.enter 95 vs.toArray) w := x_call Tryd.func95 (by kernel_rfl) rfl hv
theorem c96 {vs : List Value} (hv : xs.toList.map (ev σ) = vs) : (execOp (ev σ) ⟨dst, .call ⟨.value (.func 96), xs, ats⟩, ty, pos, aft, none⟩).run Tryd.prog w = .ok (.enter 96 vs.toArray) w := x_call Tryd.func96 (by kernel_rfl) rfl hv
theorem c97 {vs : List Value} (hv : xs.toList.map (ev σ) = vs) : (execOp (ev σ) ⟨dst, .call ⟨.value (.func 97), xs, ats⟩, ty, pos, aft, none⟩).run Tryd.prog w = .ok (.enter 97 vs.toArray) w := x_call Tryd.func97 (by kernel_rfl) rfl hv
theorem c98 {vs : List Value} (hv : xs.toList.map (ev σ) = vs) : (execOp (ev σ) ⟨dst, .call ⟨.value (.func 98), xs, ats⟩, ty, pos, aft, none⟩).run Tryd.prog w = .ok (.enter 98 vs.toArray) w := x_call Tryd.func98 (by kernel_rfl) rfl hv
theorem c99 {vs : List Value} (hv : xs.toList.map (ev σ) = vs) : (execOp (ev σ) ⟨dst, .call ⟨.value (.func 99), xs, ats⟩, ty, pos, aft, none⟩).run Tryd.prog w = .ok (.enter 99 vs.toArray) w := x_call Tryd.func99 (by kernel_rfl) rfl hv
theorem c100 {vs : List Value} (hv : xs.toList.map (ev σ) = vs) : (execOp (ev σ) ⟨dst, .call ⟨.value (.func 100), xs, ats⟩, ty, pos, aft, none⟩).run Tryd.prog w = .ok (.enter 100 vs.toArray) w := x_call Tryd.func100 (by kernel_rfl) rfl hv
theorem c101 {vs : List Value} (hv : xs.toList.map (ev σ) = vs) : (execOp (ev σ) ⟨dst, .call ⟨.value (.func 101), xs, ats⟩, ty, pos, aft, none⟩).run Tryd.prog w = .ok (.enter 101 vs.toArray) w := x_call Tryd.func101 (by kernel_rfl) rfl hv
theorem c102 {vs : List Value} (hv : xs.toList.map (ev σ) = vs) : (execOp (ev σ) ⟨dst, .call ⟨.value (.func 102), xs, ats⟩, ty, pos, aft, none⟩).run Tryd.prog w = .ok (.enter 102 vs.toArray) w := x_call Tryd.func102 (by kernel_rfl) rfl hv
theorem c103 {vs : List Value} (hv : xs.toList.map (ev σ) = vs) : (execOp (ev σ) ⟨dst, .call ⟨.value (.func 103), xs, ats⟩, ty, pos, aft, none⟩).run Tryd.prog w = .ok (.enter 103 vs.toArray) w := x_call Tryd.func103 (by kernel_rfl) rfl hv
theorem c104 {vs : List Value} (hv : xs.toList.map (ev σ) = vs) : (execOp (ev σ) ⟨dst, .call ⟨.value (.func 104), xs, ats⟩, ty, pos, aft, none⟩).run Tryd.prog w = .ok (.enter 104 vs.toArray) w := x_call Tryd.func104 (by kernel_rfl) rfl hv
theorem c105 {vs : List Value} (hv : xs.toList.map (ev σ) = vs) : (execOp (ev σ) ⟨dst, .call ⟨.value (.func 105), xs, ats⟩, ty, pos, aft, none⟩).run Tryd.prog w = .ok (.enter 105 vs.toArray) w := x_call Tryd.func105 (by kernel_rfl) rfl hv
theorem c106 {vs : List Value} (hv : xs.toList.map (ev σ) = vs) : (execOp (ev σ) ⟨dst, .call ⟨.value (.func 106), xs, ats⟩, ty, pos, aft, none⟩).run Tryd.prog w = .ok (.enter 106 vs.toArray) w := x_call Tryd.func106 (by kernel_rfl) rfl hv
theorem c107 {vs : List Value} (hv : xs.toList.map (ev σ) = vs) : (execOp (ev σ) ⟨dst, .call ⟨.value (.func 107), xs, ats⟩, ty, pos, aft, none⟩).run Tryd.prog w = .ok (.enter 107 vs.toArray) w := x_call Tryd.func107 (by kernel_rfl) rfl hv
theorem c108 {vs : List Value} (hv : xs.toList.map (ev σ) = vs) : (execOp (ev σ) ⟨dst, .call ⟨.value (.func 108), xs, ats⟩, ty, pos, aft, none⟩).run Tryd.prog w = .ok (.enter 108 vs.toArray) w := x_call Tryd.func108 (by kernel_rfl) rfl hv
theorem c109 {vs : List Value} (hv : xs.toList.map (ev σ) = vs) : (execOp (ev σ) ⟨dst, .call ⟨.value (.func 109), xs, ats⟩, ty, pos, aft, none⟩).run Tryd.prog w = .ok (.enter 109 vs.toArray) w := x_call Tryd.func109 (by kernel_rfl) rfl hv
theorem c110 {vs : List Value} (hv : xs.toList.map (ev σ) = vs) : (execOp (ev σ) ⟨dst, .call ⟨.value (.func 110), xs, ats⟩, ty, pos, aft, none⟩).run Tryd.prog w = .ok (.enter 110 vs.toArray) w := x_call Tryd.func110 (by kernel_rfl) rfl hv
theorem c111 {vs : List Value} (hv : xs.toList.map (ev σ) = vs) : (execOp (ev σ) ⟨dst, .call ⟨.value (.func 111), xs, ats⟩, ty, pos, aft, none⟩).run Tryd.prog w = .ok (.enter 111 vs.toArray) w := x_call Tryd.func111 (by kernel_rfl) rfl hv
theorem c112 {vs : List Value} (hv : xs.toList.map (ev σ) = vs) : (execOp (ev σ) ⟨dst, .call ⟨.value (.func 112), xs, ats⟩, ty, pos, aft, none⟩).run Tryd.prog w = .ok (.enter 112 vs.toArray) w := x_call Tryd.func112 (by kernel_rfl) rfl hv
theorem c113 {vs : List Value} (hv : xs.toList.map (ev σ) = vs) : (execOp (ev σ) ⟨dst, .call ⟨.value (.func 113), xs, ats⟩, ty, pos, aft, none⟩).run Tryd.prog w = .ok (.enter 113 vs.toArray) w := x_call Tryd.func113 (by kernel_rfl) rfl hv
theorem c114 {vs : List Value} (hv : xs.toList.map (ev σ) = vs) : (execOp (ev σ) ⟨dst, .call ⟨.value (.func 114), xs, ats⟩, ty, pos, aft, none⟩).run Tryd.prog w = .ok (.enter 114 vs.toArray) w := x_call Tryd.func114 (by kernel_rfl) rfl hv
theorem c115 {vs : List Value} (hv : xs.toList.map (ev σ) = vs) : (execOp (ev σ) ⟨dst, .call ⟨.value (.func 115), xs, ats⟩, ty, pos, aft, none⟩).run Tryd.prog w = .ok (.enter 115 vs.toArray) w := x_call Tryd.func115 (by kernel_rfl) rfl hv
theorem c116 {vs : List Value} (hv : xs.toList.map (ev σ) = vs) : (execOp (ev σ) ⟨dst, .call ⟨.value (.func 116), xs, ats⟩, ty, pos, aft, none⟩).run Tryd.prog w = .ok (.enter 116 vs.toArray) w := x_call Tryd.func116 (by kernel_rfl) rfl hv
theorem c117 {vs : List Value} (hv : xs.toList.map (ev σ) = vs) : (execOp (ev σ) ⟨dst, .call ⟨.value (.func 117), xs, ats⟩, ty, pos, aft, none⟩).run Tryd.prog w = .ok (.enter 117 vs.toArray) w := x_call Tryd.func117 (by kernel_rfl) rfl hv
theorem c118 {vs : List Value} (hv : xs.toList.map (ev σ) = vs) : (execOp (ev σ) ⟨dst, .call ⟨.value (.func 118), xs, ats⟩, ty, pos, aft, none⟩).run Tryd.prog w = .ok (.enter 118 vs.toArray) w := x_call Tryd.func118 (by kernel_rfl) rfl hv
theorem c119 {vs : List Value} (hv : xs.toList.map (ev σ) = vs) : (execOp (ev σ) ⟨dst, .call ⟨.value (.func 119), xs, ats⟩, ty, pos, aft, none⟩).run Tryd.prog w = .ok (.enter 119 vs.toArray) w := x_call Tryd.func119 (by kernel_rfl) rfl hv
theorem c120 {vs : List Value} (hv : xs.toList.map (ev σ) = vs) : (execOp (ev σ) ⟨dst, .call ⟨.value (.func 120), xs, ats⟩, ty, pos, aft, none⟩).run Tryd.prog w = .ok (.enter 120 vs.toArray) w := x_call Tryd.func120 (by kernel_rfl) rfl hv
theorem c121 {vs : List Value} (hv : xs.toList.map (ev σ) = vs) : (execOp (ev σ) ⟨dst, .call ⟨.value (.func 121), xs, ats⟩, ty, pos, aft, none⟩).run Tryd.prog w = .ok (.enter 121 vs.toArray) w := x_call Tryd.func121 (by kernel_rfl) rfl hv
theorem c122 {vs : List Value} (hv : xs.toList.map (ev σ) = vs) : (execOp (ev σ) ⟨dst, .call ⟨.value (.func 122), xs, ats⟩, ty, pos, aft, none⟩).run Tryd.prog w = .ok (.enter 122 vs.toArray) w := x_call Tryd.func122 (by kernel_rfl) rfl hv
theorem c123 {vs : List Value} (hv : xs.toList.map (ev σ) = vs) : (execOp (ev σ) ⟨dst, .call ⟨.value (.func 123), xs, ats⟩, ty, pos, aft, none⟩).run Tryd.prog w = .ok (.enter 123 vs.toArray) w := x_call Tryd.func123 (by kernel_rfl) rfl hv
theorem c124 {vs : List Value} (hv : xs.toList.map (ev σ) = vs) : (execOp (ev σ) ⟨dst, .call ⟨.value (.func 124), xs, ats⟩, ty, pos, aft, none⟩).run Tryd.prog w = .ok (.enter 124 vs.toArray) w := x_call Tryd.func124 (by kernel_rfl) rfl hv
theorem c125 {vs : List Value} (hv : xs.toList.map (ev σ) = vs) : (execOp (ev σ) ⟨dst, .call ⟨.value (.func 125), xs, ats⟩, ty, pos, aft, none⟩).run Tryd.prog w = .ok (.enter 125 vs.toArray) w := x_call Tryd.func125 (by kernel_rfl) rfl hv
theorem c126 {vs : List Value} (hv : xs.toList.map (ev σ) = vs) : (execOp (ev σ) ⟨dst, .call ⟨.value (.func 126), xs, ats⟩, ty, pos, aft, none⟩).run Tryd.prog w = .ok (.enter 126 vs.toArray) w := x_call Tryd.func126 (by kernel_rfl) rfl hv
theorem c127 {vs : List Value} (hv : xs.toList.map (ev σ) = vs) : (execOp (ev σ) ⟨dst, .call ⟨.value (.func 127), xs, ats⟩, ty, pos, aft, none⟩).run Tryd.prog w = .ok (.enter 127 vs.toArray) w := x_call Tryd.func127 (by kernel_rfl) rfl hv
theorem c128 {vs : List Value} (hv : xs.toList.map (ev σ) = vs) : (execOp (ev σ) ⟨dst, .call ⟨.value (.func 128), xs, ats⟩, ty, pos, aft, none⟩).run Tryd.prog w = .ok (.enter 128 vs.toArray) w := x_call Tryd.func128 (by kernel_rfl) rfl hv
theorem c129 {vs : List Value} (hv : xs.toList.map (ev σ) = vs) : (execOp (ev σ) ⟨dst, .call ⟨.value (.func 129), xs, ats⟩, ty, pos, aft, none⟩).run Tryd.prog w = .ok (.enter 129 vs.toArray) w := x_call Tryd.func129 (by kernel_rfl) rfl hv
theorem c130 {vs : List Value} (hv : xs.toList.map (ev σ) = vs) : (execOp (ev σ) ⟨dst, .call ⟨.value (.func 130), xs, ats⟩, ty, pos, aft, none⟩).run Tryd.prog w = .ok (.enter 130 vs.toArray) w := x_call Tryd.func130 (by kernel_rfl) rfl hv
theorem c131 {vs : List Value} (hv : xs.toList.map (ev σ) = vs) : (execOp (ev σ) ⟨dst, .call ⟨.value (.func 131), xs, ats⟩, ty, pos, aft, none⟩).run Tryd.prog w = .ok (.enter 131 vs.toArray) w := x_call Tryd.func131 (by kernel_rfl) rfl hv
theorem c132 {vs : List Value} (hv : xs.toList.map (ev σ) = vs) : (execOp (ev σ) ⟨dst, .call ⟨.value (.func 132), xs, ats⟩, ty, pos, aft, none⟩).run Tryd.prog w = .ok (.enter 132 vs.toArray) w := x_call Tryd.func132 (by kernel_rfl) rfl hv
theorem c133 {vs : List Value} (hv : xs.toList.map (ev σ) = vs) : (execOp (ev σ) ⟨dst, .call ⟨.value (.func 133), xs, ats⟩, ty, pos, aft, none⟩).run Tryd.prog w = .ok (.enter 133 vs.toArray) w := x_call Tryd.func133 (by kernel_rfl) rfl hv
theorem c134 {vs : List Value} (hv : xs.toList.map (ev σ) = vs) : (execOp (ev σ) ⟨dst, .call ⟨.value (.func 134), xs, ats⟩, ty, pos, aft, none⟩).run Tryd.prog w = .ok (.enter 134 vs.toArray) w := x_call Tryd.func134 (by kernel_rfl) rfl hv
theorem c135 {vs : List Value} (hv : xs.toList.map (ev σ) = vs) : (execOp (ev σ) ⟨dst, .call ⟨.value (.func 135), xs, ats⟩, ty, pos, aft, none⟩).run Tryd.prog w = .ok (.enter 135 vs.toArray) w := x_call Tryd.func135 (by kernel_rfl) rfl hv
theorem c136 {vs : List Value} (hv : xs.toList.map (ev σ) = vs) : (execOp (ev σ) ⟨dst, .call ⟨.value (.func 136), xs, ats⟩, ty, pos, aft, none⟩).run Tryd.prog w = .ok (.enter 136 vs.toArray) w := x_call Tryd.func136 (by kernel_rfl) rfl hv
theorem c137 {vs : List Value} (hv : xs.toList.map (ev σ) = vs) : (execOp (ev σ) ⟨dst, .call ⟨.value (.func 137), xs, ats⟩, ty, pos, aft, none⟩).run Tryd.prog w = .ok (.enter 137 vs.toArray) w := x_call Tryd.func137 (by kernel_rfl) rfl hv
theorem c138 {vs : List Value} (hv : xs.toList.map (ev σ) = vs) : (execOp (ev σ) ⟨dst, .call ⟨.value (.func 138), xs, ats⟩, ty, pos, aft, none⟩).run Tryd.prog w = .ok (.enter 138 vs.toArray) w := x_call Tryd.func138 (by kernel_rfl) rfl hv
theorem c139 {vs : List Value} (hv : xs.toList.map (ev σ) = vs) : (execOp (ev σ) ⟨dst, .call ⟨.value (.func 139), xs, ats⟩, ty, pos, aft, none⟩).run Tryd.prog w = .ok (.enter 139 vs.toArray) w := x_call Tryd.func139 (by kernel_rfl) rfl hv
theorem c140 {vs : List Value} (hv : xs.toList.map (ev σ) = vs) : (execOp (ev σ) ⟨dst, .call ⟨.value (.func 140), xs, ats⟩, ty, pos, aft, none⟩).run Tryd.prog w = .ok (.enter 140 vs.toArray) w := x_call Tryd.func140 (by kernel_rfl) rfl hv
theorem c141 {vs : List Value} (hv : xs.toList.map (ev σ) = vs) : (execOp (ev σ) ⟨dst, .call ⟨.value (.func 141), xs, ats⟩, ty, pos, aft, none⟩).run Tryd.prog w = .ok (.enter 141 vs.toArray) w := x_call Tryd.func141 (by kernel_rfl) rfl hv
theorem c142 {vs : List Value} (hv : xs.toList.map (ev σ) = vs) : (execOp (ev σ) ⟨dst, .call ⟨.value (.func 142), xs, ats⟩, ty, pos, aft, none⟩).run Tryd.prog w = .ok (.enter 142 vs.toArray) w := x_call Tryd.func142 (by kernel_rfl) rfl hv
theorem c143 {vs : List Value} (hv : xs.toList.map (ev σ) = vs) : (execOp (ev σ) ⟨dst, .call ⟨.value (.func 143), xs, ats⟩, ty, pos, aft, none⟩).run Tryd.prog w = .ok (.enter 143 vs.toArray) w := x_call Tryd.func143 (by kernel_rfl) rfl hv
theorem c144 {vs : List Value} (hv : xs.toList.map (ev σ) = vs) : (execOp (ev σ) ⟨dst, .call ⟨.value (.func 144), xs, ats⟩, ty, pos, aft, none⟩).run Tryd.prog w = .ok (.enter 144 vs.toArray) w := x_call Tryd.func144 (by kernel_rfl) rfl hv
theorem c145 {vs : List Value} (hv : xs.toList.map (ev σ) = vs) : (execOp (ev σ) ⟨dst, .call ⟨.value (.func 145), xs, ats⟩, ty, pos, aft, none⟩).run Tryd.prog w = .ok (.enter 145 vs.toArray) w := x_call Tryd.func145 (by kernel_rfl) rfl hv
theorem c146 {vs : List Value} (hv : xs.toList.map (ev σ) = vs) : (execOp (ev σ) ⟨dst, .call ⟨.value (.func 146), xs, ats⟩, ty, pos, aft, none⟩).run Tryd.prog w = .ok (.enter 146 vs.toArray) w := x_call Tryd.func146 (by kernel_rfl) rfl hv
theorem c147 {vs : List Value} (hv : xs.toList.map (ev σ) = vs) : (execOp (ev σ) ⟨dst, .call ⟨.value (.func 147), xs, ats⟩, ty, pos, aft, none⟩).run Tryd.prog w = .ok (.enter 147 vs.toArray) w := x_call Tryd.func147 (by kernel_rfl) rfl hv
theorem c148 {vs : List Value} (hv : xs.toList.map (ev σ) = vs) : (execOp (ev σ) ⟨dst, .call ⟨.value (.func 148), xs, ats⟩, ty, pos, aft, none⟩).run Tryd.prog w = .ok (.enter 148 vs.toArray) w := x_call Tryd.func148 (by kernel_rfl) rfl hv
theorem c149 {vs : List Value} (hv : xs.toList.map (ev σ) = vs) : (execOp (ev σ) ⟨dst, .call ⟨.value (.func 149), xs, ats⟩, ty, pos, aft, none⟩).run Tryd.prog w = .ok (.enter 149 vs.toArray) w := x_call Tryd.func149 (by kernel_rfl) rfl hv
theorem c150 {vs : List Value} (hv : xs.toList.map (ev σ) = vs) : (execOp (ev σ) ⟨dst, .call ⟨.value (.func 150), xs, ats⟩, ty, pos, aft, none⟩).run Tryd.prog w = .ok (.enter 150 vs.toArray) w := x_call Tryd.func150 (by kernel_rfl) rfl hv
theorem c151 {vs : List Value} (hv : xs.toList.map (ev σ) = vs) : (execOp (ev σ) ⟨dst, .call ⟨.value (.func 151), xs, ats⟩, ty, pos, aft, none⟩).run Tryd.prog w = .ok (.enter 151 vs.toArray) w := x_call Tryd.func151 (by kernel_rfl) rfl hv
theorem c152 {vs : List Value} (hv : xs.toList.map (ev σ) = vs) : (execOp (ev σ) ⟨dst, .call ⟨.value (.func 152), xs, ats⟩, ty, pos, aft, none⟩).run Tryd.prog w = .ok (.enter 152 vs.toArray) w := x_call Tryd.func152 (by kernel_rfl) rfl hv
theorem c153 {vs : List Value} (hv : xs.toList.map (ev σ) = vs) : (execOp (ev σ) ⟨dst, .call ⟨.value (.func 153), xs, ats⟩, ty, pos, aft, none⟩).run Tryd.prog w = .ok (.enter 153 vs.toArray) w := x_call Tryd.func153 (by kernel_rfl) rfl hv
theorem c154 {vs : List Value} (hv : xs.toList.map (ev σ) = vs) : (execOp (ev σ) ⟨dst, .call ⟨.value (.func 154), xs, ats⟩, ty, pos, aft, none⟩).run Tryd.prog w = .ok (.enter 154 vs.toArray) w := x_call Tryd.func154 (by kernel_rfl) rfl hv
theorem c155 {vs : List Value} (hv : xs.toList.map (ev σ) = vs) : (execOp (ev σ) ⟨dst, .call ⟨.value (.func 155), xs, ats⟩, ty, pos, aft, none⟩).run Tryd.prog w = .ok (.enter 155 vs.toArray) w := x_call Tryd.func155 (by kernel_rfl) rfl hv
theorem c156 {vs : List Value} (hv : xs.toList.map (ev σ) = vs) : (execOp (ev σ) ⟨dst, .call ⟨.value (.func 156), xs, ats⟩, ty, pos, aft, none⟩).run Tryd.prog w = .ok (.enter 156 vs.toArray) w := x_call Tryd.func156 (by kernel_rfl) rfl hv
theorem c157 {vs : List Value} (hv : xs.toList.map (ev σ) = vs) : (execOp (ev σ) ⟨dst, .call ⟨.value (.func 157), xs, ats⟩, ty, pos, aft, none⟩).run Tryd.prog w = .ok (.enter 157 vs.toArray) w := x_call Tryd.func157 (by kernel_rfl) rfl hv
theorem c158 {vs : List Value} (hv : xs.toList.map (ev σ) = vs) : (execOp (ev σ) ⟨dst, .call ⟨.value (.func 158), xs, ats⟩, ty, pos, aft, none⟩).run Tryd.prog w = .ok (.enter 158 vs.toArray) w := x_call Tryd.func158 (by kernel_rfl) rfl hv
theorem c159 {vs : List Value} (hv : xs.toList.map (ev σ) = vs) : (execOp (ev σ) ⟨dst, .call ⟨.value (.func 159), xs, ats⟩, ty, pos, aft, none⟩).run Tryd.prog w = .ok (.enter 159 vs.toArray) w := x_call Tryd.func159 (by kernel_rfl) rfl hv
theorem c160 {vs : List Value} (hv : xs.toList.map (ev σ) = vs) : (execOp (ev σ) ⟨dst, .call ⟨.value (.func 160), xs, ats⟩, ty, pos, aft, none⟩).run Tryd.prog w = .ok (.enter 160 vs.toArray) w := x_call Tryd.func160 (by kernel_rfl) rfl hv
theorem c161 {vs : List Value} (hv : xs.toList.map (ev σ) = vs) : (execOp (ev σ) ⟨dst, .call ⟨.value (.func 161), xs, ats⟩, ty, pos, aft, none⟩).run Tryd.prog w = .ok (.enter 161 vs.toArray) w := x_call Tryd.func161 (by kernel_rfl) rfl hv
theorem c162 {vs : List Value} (hv : xs.toList.map (ev σ) = vs) : (execOp (ev σ) ⟨dst, .call ⟨.value (.func 162), xs, ats⟩, ty, pos, aft, none⟩).run Tryd.prog w = .ok (.enter 162 vs.toArray) w := x_call Tryd.func162 (by kernel_rfl) rfl hv
theorem c163 {vs : List Value} (hv : xs.toList.map (ev σ) = vs) : (execOp (ev σ) ⟨dst, .call ⟨.value (.func 163), xs, ats⟩, ty, pos, aft, none⟩).run Tryd.prog w = .ok (.enter 163 vs.toArray) w := x_call Tryd.func163 (by kernel_rfl) rfl hv
theorem c164 {vs : List Value} (hv : xs.toList.map (ev σ) = vs) : (execOp (ev σ) ⟨dst, .call ⟨.value (.func 164), xs, ats⟩, ty, pos, aft, none⟩).run Tryd.prog w = .ok (.enter 164 vs.toArray) w := x_call Tryd.func164 (by kernel_rfl) rfl hv
theorem c165 {vs : List Value} (hv : xs.toList.map (ev σ) = vs) : (execOp (ev σ) ⟨dst, .call ⟨.value (.func 165), xs, ats⟩, ty, pos, aft, none⟩).run Tryd.prog w = .ok (.enter 165 vs.toArray) w := x_call Tryd.func165 (by kernel_rfl) rfl hv
theorem c166 {vs : List Value} (hv : xs.toList.map (ev σ) = vs) : (execOp (ev σ) ⟨dst, .call ⟨.value (.func 166), xs, ats⟩, ty, pos, aft, none⟩).run Tryd.prog w = .ok (.enter 166 vs.toArray) w := x_call Tryd.func166 (by kernel_rfl) rfl hv
theorem c167 {vs : List Value} (hv : xs.toList.map (ev σ) = vs) : (execOp (ev σ) ⟨dst, .call ⟨.value (.func 167), xs, ats⟩, ty, pos, aft, none⟩).run Tryd.prog w = .ok (.enter 167 vs.toArray) w := x_call Tryd.func167 (by kernel_rfl) rfl hv
theorem c168 {vs : List Value} (hv : xs.toList.map (ev σ) = vs) : (execOp (ev σ) ⟨dst, .call ⟨.value (.func 168), xs, ats⟩, ty, pos, aft, none⟩).run Tryd.prog w = .ok (.enter 168 vs.toArray) w := x_call Tryd.func168 (by kernel_rfl) rfl hv
theorem c169 {vs : List Value} (hv : xs.toList.map (ev σ) = vs) : (execOp (ev σ) ⟨dst, .call ⟨.value (.func 169), xs, ats⟩, ty, pos, aft, none⟩).run Tryd.prog w = .ok (.enter 169 vs.toArray) w := x_call Tryd.func169 (by kernel_rfl) rfl hv
theorem c170 {vs : List Value} (hv : xs.toList.map (ev σ) = vs) : (execOp (ev σ) ⟨dst, .call ⟨.value (.func 170), xs, ats⟩, ty, pos, aft, none⟩).run Tryd.prog w = .ok (.enter 170 vs.toArray) w := x_call Tryd.func170 (by kernel_rfl) rfl hv
theorem c171 {vs : List Value} (hv : xs.toList.map (ev σ) = vs) : (execOp (ev σ) ⟨dst, .call ⟨.value (.func 171), xs, ats⟩, ty, pos, aft, none⟩).run Tryd.prog w = .ok (.enter 171 vs.toArray) w := x_call Tryd.func171 (by kernel_rfl) rfl hv
theorem c172 {vs : List Value} (hv : xs.toList.map (ev σ) = vs) : (execOp (ev σ) ⟨dst, .call ⟨.value (.func 172), xs, ats⟩, ty, pos, aft, none⟩).run Tryd.prog w = .ok (.enter 172 vs.toArray) w := x_call Tryd.func172 (by kernel_rfl) rfl hv
theorem c173 {vs : List Value} (hv : xs.toList.map (ev σ) = vs) : (execOp (ev σ) ⟨dst, .call ⟨.value (.func 173), xs, ats⟩, ty, pos, aft, none⟩).run Tryd.prog w = .ok (.enter 173 vs.toArray) w := x_call Tryd.func173 (by kernel_rfl) rfl hv
theorem c174 {vs : List Value} (hv : xs.toList.map (ev σ) = vs) : (execOp (ev σ) ⟨dst, .call ⟨.value (.func 174), xs, ats⟩, ty, pos, aft, none⟩).run Tryd.prog w = .ok (.enter 174 vs.toArray) w := x_call Tryd.func174 (by kernel_rfl) rfl hv
theorem c175 {vs : List Value} (hv : xs.toList.map (ev σ) = vs) : (execOp (ev σ) ⟨dst, .call ⟨.value (.func 175), xs, ats⟩, ty, pos, aft, none⟩).run Tryd.prog w = .ok (.enter 175 vs.toArray) w := x_call Tryd.func175 (by kernel_rfl) rfl hv
theorem c176 {vs : List Value} (hv : xs.toList.map (ev σ) = vs) : (execOp (ev σ) ⟨dst, .call ⟨.value (.func 176), xs, ats⟩, ty, pos, aft, none⟩).run Tryd.prog w = .ok (.enter 176 vs.toArray) w := x_call Tryd.func176 (by kernel_rfl) rfl hv
theorem c177 {vs : List Value} (hv : xs.toList.map (ev σ) = vs) : (execOp (ev σ) ⟨dst, .call ⟨.value (.func 177), xs, ats⟩, ty, pos, aft, none⟩).run Tryd.prog w = .ok (.enter 177 vs.toArray) w := x_call Tryd.func177 (by kernel_rfl) rfl hv
theorem c178 {vs : List Value} (hv : xs.toList.map (ev σ) = vs) : (execOp (ev σ) ⟨dst, .call ⟨.value (.func 178), xs, ats⟩, ty, pos, aft, none⟩).run Tryd.prog w = .ok (.enter 178 vs.toArray) w := x_call Tryd.func178 (by kernel_rfl) rfl hv
theorem c179 {vs : List Value} (hv : xs.toList.map (ev σ) = vs) : (execOp (ev σ) ⟨dst, .call ⟨.value (.func 179), xs, ats⟩, ty, pos, aft, none⟩).run Tryd.prog w = .ok (.enter 179 vs.toArray) w := x_call Tryd.func179 (by kernel_rfl) rfl hv
theorem c180 {vs : List Value} (hv : xs.toList.map (ev σ) = vs) : (execOp (ev σ) ⟨dst, .call ⟨.value (.func 180), xs, ats⟩, ty, pos, aft, none⟩).run Tryd.prog w = .ok (.enter 180 vs.toArray) w := x_call Tryd.func180 (by kernel_rfl) rfl hv
theorem c181 {vs : List Value} (hv : xs.toList.map (ev σ) = vs) : (execOp (ev σ) ⟨dst, .call ⟨.value (.func 181), xs, ats⟩, ty, pos, aft, none⟩).run Tryd.prog w = .ok (.enter 181 vs.toArray) w := x_call Tryd.func181 (by kernel_rfl) rfl hv
theorem c182 {vs : List Value} (hv : xs.toList.map (ev σ) = vs) : (execOp (ev σ) ⟨dst, .call ⟨.value (.func 182), xs, ats⟩, ty, pos, aft, none⟩).run Tryd.prog w = .ok (.enter 182 vs.toArray) w := x_call Tryd.func182 (by kernel_rfl) rfl hv
theorem c183 {vs : List Value} (hv : xs.toList.map (ev σ) = vs) : (execOp (ev σ) ⟨dst, .call ⟨.value (.func 183), xs, ats⟩, ty, pos, aft, none⟩).run Tryd.prog w = .ok (.enter 183 vs.toArray) w := x_call Tryd.func183 (by kernel_rfl) rfl hv
theorem c184 {vs : List Value} (hv : xs.toList.map (ev σ) = vs) : (execOp (ev σ) ⟨dst, .call ⟨.value (.func 184), xs, ats⟩, ty, pos, aft, none⟩).run Tryd.prog w = .ok (.enter 184 vs.toArray) w := x_call Tryd.func184 (by kernel_rfl) rfl hv
theorem c185 {vs : List Value} (hv : xs.toList.map (ev σ) = vs) : (execOp (ev σ) ⟨dst, .call ⟨.value (.func 185), xs, ats⟩, ty, pos, aft, none⟩).run Tryd.prog w = .ok (.enter 185 vs.toArray) w := x_call Tryd.func185 (by kernel_rfl) rfl hv
theorem c186 {vs : List Value} (hv : xs.toList.map (ev σ) = vs) : (execOp (ev σ) ⟨dst, .call ⟨.value (.func 186), xs, ats⟩, ty, pos, aft, none⟩).run Tryd.prog w = .ok (.enter 186 vs.toArray) w := x_call Tryd.func186 (by kernel_rfl) rfl hv
theorem c188 {vs : List Value} (hv : xs.toList.map (ev σ) = vs) : (execOp (ev σ) ⟨dst, .call ⟨.value (.func 188), xs, ats⟩, ty, pos, aft, none⟩).run Tryd.prog w = .ok (.enter 188 vs.toArray) w := x_call Tryd.func188 (by kernel_rfl) rfl hv
theorem c189 {vs : List Value} (hv : xs.toList.map (ev σ) = vs) : (execOp (ev σ) ⟨dst, .call ⟨.value (.func 189), xs, ats⟩, ty, pos, aft, none⟩).run Tryd.prog w = .ok (.enter 189 vs.toArray) w := x_call Tryd.func189 (by kernel_rfl) rfl hv
theorem c190 {vs : List Value} (hv : xs.toList.map (ev σ) = vs) : (execOp (ev σ) ⟨dst, .call ⟨.value (.func 190), xs, ats⟩, ty, pos, aft, none⟩).run Tryd.prog w = .ok (.enter 190 vs.toArray) w := x_call Tryd.func190 (by kernel_rfl) rfl hv
theorem c191 {vs : List Value} (hv : xs.toList.map (ev σ) = vs) : (execOp (ev σ) ⟨dst, .call ⟨.value (.func 191), xs, ats⟩, ty, pos, aft, none⟩).run Tryd.prog w = .ok (.enter 191 vs.toArray) w := x_call Tryd.func191 (by kernel_rfl) rfl hv
theorem c192 {vs : List Value} (hv : xs.toList.map (ev σ) = vs) : (execOp (ev σ) ⟨dst, .call ⟨.value (.func 192), xs, ats⟩, ty, pos, aft, none⟩).run Tryd.prog w = .ok (.enter 192 vs.toArray) w := x_call Tryd.func192 (by kernel_rfl) rfl hv
theorem c193 {vs : List Value} (hv : xs.toList.map (ev σ) = vs) : (execOp (ev σ) ⟨dst, .call ⟨.value (.func 193), xs, ats⟩, ty, pos, aft, none⟩).run Tryd.prog w = .ok (.enter 193 vs.toArray) w := x_call Tryd.func193 (by kernel_rfl) rfl hv
theorem c194 {vs : List Value} (hv : xs.toList.map (ev σ) = vs) : (execOp (ev σ) ⟨dst, .call ⟨.value (.func 194), xs, ats⟩, ty, pos, aft, none⟩).run Tryd.prog w = .ok (.enter 194 vs.toArray) w := x_call Tryd.func194 (by kernel_rfl) rfl hv
theorem c195 {vs : List Value} (hv : xs.toList.map (ev σ) = vs) : (execOp (ev σ) ⟨dst, .call ⟨.value (.func 195), xs, ats⟩, ty, pos, aft, none⟩).run Tryd.prog w = .ok (.enter 195 vs.toArray) w := x_call Tryd.func195 (by kernel_rfl) rfl hv
theorem c197 {vs : List Value} (hv : xs.toList.map (ev σ) = vs) : (execOp (ev σ) ⟨dst, .call ⟨.value (.func 197), xs, ats⟩, ty, pos, aft, none⟩).run Tryd.prog w = .ok (.enter 197 vs.toArray) w := x_call Tryd.func197 (by kernel_rfl) rfl hv
theorem c198 {vs : List Value} (hv : xs.toList.map (ev σ) = vs) : (execOp (ev σ) ⟨dst, .call ⟨.value (.func 198), xs, ats⟩, ty, pos, aft, none⟩).run Tryd.prog w = .ok (.enter 198 vs.toArray) w := x_call Tryd.func198 (by kernel_rfl) rfl hv
theorem c199 {vs : List Value} (hv : xs.toList.map (ev σ) = vs) : (execOp (ev σ) ⟨dst, .call ⟨.value (.func 199), xs, ats⟩, ty, pos, aft, none⟩).run Tryd.prog w = .ok (.enter 199 vs.toArray) w := x_call Tryd.func199 (by kernel_rfl) rfl hv
theorem c200 {vs : List Value} (hv : xs.toList.map (ev σ) = vs) : (execOp (ev σ) ⟨dst, .call ⟨.value (.func 200), xs, ats⟩, ty, pos, aft, none⟩).run Tryd.prog w = .ok (.enter 200 vs.toArray) w := x_call Tryd.func200 (by kernel_rfl) rfl hv
theorem c201 {vs : List Value} (hv : xs.toList.map (ev σ) = vs) : (execOp (ev σ) ⟨dst, .call ⟨.value (.func 201), xs, ats⟩, ty, pos, aft, none⟩).run Tryd.prog w = .ok (.enter 201 vs.toArray) w := x_call Tryd.func201 (by kernel_rfl) rfl hv
theorem c202 {vs : List Value} (hv : xs.toList.map (ev σ) = vs) : (execOp (ev σ) ⟨dst, .call ⟨.value (.func 202), xs, ats⟩, ty, pos, aft, none⟩).run Tryd.prog w = .ok (.enter 202 vs.toArray) w := x_call Tryd.func202 (by kernel_rfl) rfl hv
theorem c203 {vs : List Value} (hv : xs.toList.map (ev σ) = vs) : (execOp (ev σ) ⟨dst, .call ⟨.value (.func 203), xs, ats⟩, ty, pos, aft, none⟩).run Tryd.prog w = .ok (.enter 203 vs.toArray) w := x_call Tryd.func203 (by kernel_rfl) rfl hv
theorem c204 {vs : List Value} (hv : xs.toList.map (ev σ) = vs) : (execOp (ev σ) ⟨dst, .call ⟨.value (.func 204), xs, ats⟩, ty, pos, aft, none⟩).run Tryd.prog w = .ok (.enter 204 vs.toArray) w := x_call Tryd.func204 (by kernel_rfl) rfl hv
theorem c205 {vs : List Value} (hv : xs.toList.map (ev σ) = vs) : (execOp (ev σ) ⟨dst, .call ⟨.value (.func 205), xs, ats⟩, ty, pos, aft, none⟩).run Tryd.prog w = .ok (.enter 205 vs.toArray) w := x_call Tryd.func205 (by kernel_rfl) rfl hv
theorem c206 {vs : List Value} (hv : xs.toList.map (ev σ) = vs) : (execOp (ev σ) ⟨dst, .call ⟨.value (.func 206), xs, ats⟩, ty, pos, aft, none⟩).run Tryd.prog w = .ok (.enter 206 vs.toArray) w := x_call Tryd.func206 (by kernel_rfl) rfl hv
theorem c207 {vs : List Value} (hv : xs.toList.map (ev σ) = vs) : (execOp (ev σ) ⟨dst, .call ⟨.value (.func 207), xs, ats⟩, ty, pos, aft, none⟩).run Tryd.prog w = .ok (.enter 207 vs.toArray) w := x_call Tryd.func207 (by kernel_rfl) rfl hv
theorem c208 {vs : List Value} (hv : xs.toList.map (ev σ) = vs) : (execOp (ev σ) ⟨dst, .call ⟨.value (.func 208), xs, ats⟩, ty, pos, aft, none⟩).run Tryd.prog w = .ok (.enter 208 vs.toArray) w := x_call Tryd.func208 (by kernel_rfl) rfl hv
theorem c209 {vs : List Value} (hv : xs.toList.map (ev σ) = vs) : (execOp (ev σ) ⟨dst, .call ⟨.value (.func 209), xs, ats⟩, ty, pos, aft, none⟩).run Tryd.prog w = .ok (.enter 209 vs.toArray) w := x_call Tryd.func209 (by kernel_rfl) rfl hv
theorem c210 {vs : List Value} (hv : xs.toList.map (ev σ) = vs) : (execOp (ev σ) ⟨dst, .call ⟨.value (.func 210), xs, ats⟩, ty, pos, aft, none⟩).run Tryd.prog w = .ok (.enter 210 vs.toArray) w := x_call Tryd.func210 (by kernel_rfl) rfl hv
theorem c211 {vs : List Value} (hv : xs.toList.map (ev σ) = vs) : (execOp (ev σ) ⟨dst, .call ⟨.value (.func 211), xs, ats⟩, ty, pos, aft, none⟩).run Tryd.prog w = .ok (.enter 211 vs.toArray) w := x_call Tryd.func211 (by kernel_rfl) rfl hv
theorem c212 {vs : List Value} (hv : xs.toList.map (ev σ) = vs) : (execOp (ev σ) ⟨dst, .call ⟨.value (.func 212), xs, ats⟩, ty, pos, aft, none⟩).run Tryd.prog w = .ok (.enter 212 vs.toArray) w := x_call Tryd.func212 (by kernel_rfl) rfl hv
theorem c213 {vs : List Value} (hv : xs.toList.map (ev σ) = vs) : (execOp (ev σ) ⟨dst, .call ⟨.value (.func 213), xs, ats⟩, ty, pos, aft, none⟩).run Tryd.prog w = .ok (.enter 213 vs.toArray) w := x_call Tryd.func213 (by kernel_rfl) rfl hv
theorem c214 {vs : List Value} (hv : xs.toList.map (ev σ) = vs) : (execOp (ev σ) ⟨dst, .call ⟨.value (.func 214), xs, ats⟩, ty, pos, aft, none⟩).run Tryd.prog w = .ok (.enter 214 vs.toArray) w := x_call Tryd.func214 (by kernel_rfl) rfl hv
theorem c215 {vs : List Value} (hv : xs.toList.map (ev σ) = vs) : (execOp (ev σ) ⟨dst, .call ⟨.value (.func 215), xs, ats⟩, ty, pos, aft, none⟩).run Tryd.prog w = .ok (.enter 215 vs.toArray) w := x_call Tryd.func215 (by kernel_rfl) rfl hv
theorem c216 {vs : List Value} (hv : xs.toList.map (ev σ) = vs) : (execOp (ev σ) ⟨dst, .call ⟨.value (.func 216), xs, ats⟩, ty, pos, aft, none⟩).run Tryd.prog w = .ok (.enter 216 vs.toArray) w := x_call Tryd.func216 (by kernel_rfl) rfl hv
theorem c217 {vs : List Value} (hv : xs.toList.map (ev σ) = vs) : (execOp (ev σ) ⟨dst, .call ⟨.value (.func 217), xs, ats⟩, ty, pos, aft, none⟩).run Tryd.prog w = .ok (.enter 217 vs.toArray) w := x_call Tryd.func217 (by kernel_rfl) rfl hv
theorem c218 {vs : List Value} (hv : xs.toList.map (ev σ) = vs) : (execOp (ev σ) ⟨dst, .call ⟨.value (.func 218), xs, ats⟩, ty, pos, aft, none⟩).run Tryd.prog w = .ok (.enter 218 vs.toArray) w := x_call Tryd.func218 (by kernel_rfl) rfl hv
theorem c219 {vs : List Value} (hv : xs.toList.map (ev σ) = vs) : (execOp (ev σ) ⟨dst, .call ⟨.value (.func 219), xs, ats⟩, ty, pos, aft, none⟩).run Tryd.prog w = .ok (.enter 219 vs.toArray) w := x_call Tryd.func219 (by kernel_rfl) rfl hv
theorem c220 {vs : List Value} (hv : xs.toList.map (ev σ) = vs) : (execOp (ev σ) ⟨dst, .call ⟨.value (.func 220), xs, ats⟩, ty, pos, aft, none⟩).run Tryd.prog w = .ok (.enter 220 vs.toArray) w := x_call Tryd.func220 (by kernel_rfl) rfl hv
theorem c221 {vs : List Value} (hv : xs.toList.map (ev σ) = vs) : (execOp (ev σ) ⟨dst, .call ⟨.value (.func 221), xs, ats⟩, ty, pos, aft, none⟩).run Tryd.prog w = .ok (.enter 221 vs.toArray) w := x_call Tryd.func221 (by kernel_rfl) rfl hv
theorem c222 {vs : List Value} (hv : xs.toList.map (ev σ) = vs) : (execOp (ev σ) ⟨dst, .call ⟨.value (.func 222), xs, ats⟩, ty, pos, aft, none⟩).run Tryd.prog w = .ok (.enter 222 vs.toArray) w := x_call Tryd.func222 (by kernel_rfl) rfl hv
theorem c223 {vs : List Value} (hv : xs.toList.map (ev σ) = vs) : (execOp (ev σ) ⟨dst, .call ⟨.value (.func 223), xs, ats⟩, ty, pos, aft, none⟩).run Tryd.prog w = .ok (.enter 223 vs.toArray) w := x_call Tryd.func223 (by kernel_rfl) rfl hv
theorem c224 {vs : List Value} (hv : xs.toList.map (ev σ) = vs) : (execOp (ev σ) ⟨dst, .call ⟨.value (.func 224), xs, ats⟩, ty, pos, aft, none⟩).run Tryd.prog w = .ok (.enter 224 vs.toArray) w := x_call Tryd.func224 (by kernel_rfl) rfl hv
theorem c225 {vs : List Value} (hv : xs.toList.map (ev σ) = vs) : (execOp (ev σ) ⟨dst, .call ⟨.value (.func 225), xs, ats⟩, ty, pos, aft, none⟩).run Tryd.prog w = .ok (.enter 225 vs.toArray) w := x_call Tryd.func225 (by kernel_rfl) rfl hv
theorem c226 {vs : List Value} (hv : xs.toList.map (ev σ) = vs) : (execOp (ev σ) ⟨dst, .call ⟨.value (.func 226), xs, ats⟩, ty, pos, aft, none⟩).run Tryd.prog w = .ok (.enter 226 vs.toArray) w := x_call Tryd.func226 (by kernel_rfl) rfl hv
theorem c227 {vs : List Value} (hv : xs.toList.map (ev σ) = vs) : (execOp (ev σ) ⟨dst, .call ⟨.value (.func 227), xs, ats⟩, ty, pos, aft, none⟩).run Tryd.prog w = .ok (.enter 227 vs.toArray) w := x_call Tryd.func227 (by kernel_rfl) rfl hv
theorem c228 {vs : List Value} (hv : xs.toList.map (ev σ) = vs) : (execOp (ev σ) ⟨dst, .call ⟨.value (.func 228), xs, ats⟩, ty, pos, aft, none⟩).run Tryd.prog w = .ok (.enter 228 vs.toArray) w := x_call Tryd.func228 (by kernel_rfl) rfl hv
theorem c229 {vs : List Value} (hv : xs.toList.map (ev σ) = vs) : (execOp (ev σ) ⟨dst, .call ⟨.value (.func 229), xs, ats⟩, ty, pos, aft, none⟩).run Tryd.prog w = .ok (.enter 229 vs.toArray) w := x_call Tryd.func229 (by kernel_rfl) rfl hv
theorem c230 {vs : List Value} (hv : xs.toList.map (ev σ) = vs) : (execOp (ev σ) ⟨dst, .call ⟨.value (.func 230), xs, ats⟩, ty, pos, aft, none⟩).run Tryd.prog w = .ok (.enter 230 vs.toArray) w := x_call Tryd.func230 (by kernel_rfl) rfl hv
theorem c231 {vs : List Value} (hv : xs.toList.map (ev σ) = vs) : (execOp (ev σ) ⟨dst, .call ⟨.value (.func 231), xs, ats⟩, ty, pos, aft, none⟩).run Tryd.prog w = .ok (.enter 231 vs.toArray) w := x_call Tryd.func231 (by kernel_rfl) rfl hv
theorem c232 {vs : List Value} (hv : xs.toList.map (ev σ) = vs) : (execOp (ev σ) ⟨dst, .call ⟨.value (.func 232), xs, ats⟩, ty, pos, aft, none⟩).run Tryd.prog w = .ok (.enter 232 vs.toArray) w := x_call Tryd.func232 (by kernel_rfl) rfl hv
theorem c233 {vs : List Value} (hv : xs.toList.map (ev σ) = vs) : (execOp (ev σ) ⟨dst, .call ⟨.value (.func 233), xs, ats⟩, ty, pos, aft, none⟩).run Tryd.prog w = .ok (.enter 233 vs.toArray) w := x_call Tryd.func233 (by kernel_rfl) rfl hv
theorem c234 {vs : List Value} (hv : xs.toList.map (ev σ) = vs) : (execOp (ev σ) ⟨dst, .call ⟨.value (.func 234), xs, ats⟩, ty, pos, aft, none⟩).run Tryd.prog w = .ok (.enter 234 vs.toArray) w := x_call Tryd.func234 (by kernel_rfl) rfl hv
theorem c235 {vs : List Value} (hv : xs.toList.map (ev σ) = vs) : (execOp (ev σ) ⟨dst, .call ⟨.value (.func 235), xs, ats⟩, ty, pos, aft, none⟩).run Tryd.prog w = .ok (.enter 235 vs.toArray) w := x_call Tryd.func235 (by kernel_rfl) rfl hv
theorem c236 {vs : List Value} (hv : xs.toList.map (ev σ) = vs) : (execOp (ev σ) ⟨dst, .call ⟨.value (.func 236), xs, ats⟩, ty, pos, aft, none⟩).run Tryd.prog w = .ok (.enter 236 vs.toArray) w := x_call Tryd.func236 (by kernel_rfl) rfl hv
theorem c237 {vs : List Value} (hv : xs.toList.map (ev σ) = vs) : (execOp (ev σ) ⟨dst, .call ⟨.value (.func 237), xs, ats⟩, ty, pos, aft, none⟩).run Tryd.prog w = .ok (.enter 237 vs.toArray) w := x_call Tryd.func237 (by kernel_rfl) rfl hv
theorem c238 {vs : List Value} (hv : xs.toList.map (ev σ) = vs) : (execOp (ev σ) ⟨dst, .call ⟨.value (.func 238), xs, ats⟩, ty, pos, aft, none⟩).run Tryd.prog w = .ok (.enter 238 vs.toArray) w := x_call Tryd.func238 (by kernel_rfl) rfl hv
theorem c239 {vs : List Value} (hv : xs.toList.map (ev σ) = vs) : (execOp (ev σ) ⟨dst, .call ⟨.value (.func 239), xs, ats⟩, ty, pos, aft, none⟩).run Tryd.prog w = .ok (.enter 239 vs.toArray) w := x_call Tryd.func239 (by kernel_rfl) rfl hv
theorem c240 {vs : List Value} (hv : xs.toList.map (ev σ) = vs) : (execOp (ev σ) ⟨dst, .call ⟨.value (.func 240), xs, ats⟩, ty, pos, aft, none⟩).run Tryd.prog w = .ok (.enter 240 vs.toArray) w := x_call Tryd.func240 (by kernel_rfl) rfl hv
theorem c241 {vs : List Value} (hv : xs.toList.map (ev σ) = vs) : (execOp (ev σ) ⟨dst, .call ⟨.value (.func 241), xs, ats⟩, ty, pos, aft, none⟩).run Tryd.prog w = .ok (.enter 241 vs.toArray) w := x_call Tryd.func241 (by kernel_rfl) rfl hv
theorem c242 {vs : List Value} (hv : xs.toList.map (ev σ) = vs) : (execOp (ev σ) ⟨dst, .call ⟨.value (.func 242), xs, ats⟩, ty, pos, aft, none⟩).run Tryd.prog w = .ok (.enter 242 vs.toArray) w := x_call Tryd.func242 (by kernel_rfl) rfl hv
theorem c244 {vs : List Value} (hv : xs.toList.map (ev σ) = vs) : (execOp (ev σ) ⟨dst, .call ⟨.value (.func 244), xs, ats⟩, ty, pos, aft, none⟩).run Tryd.prog w = .ok (.enter 244 vs.toArray) w := x_call Tryd.func244 (by kernel_rfl) rfl hv
theorem c245 {vs : List Value} (hv : xs.toList.map (ev σ) = vs) : (execOp (ev σ) ⟨dst, .call ⟨.value (.func 245), xs, ats⟩, ty, pos, aft, none⟩).run Tryd.prog w = .ok (.enter 245 vs.toArray) w := x_call Tryd.func245 (by kernel_rfl) rfl hv
theorem c246 {vs : List Value} (hv : xs.toList.map (ev σ) = vs) : (execOp (ev σ) ⟨dst, .call ⟨.value (.func 246), xs, ats⟩, ty, pos, aft, none⟩).run Tryd.prog w = .ok (.enter 246 vs.toArray) w := x_call Tryd.func246 (by kernel_rfl) rfl hv
theorem c247 {vs : List Value} (hv : xs.toList.map (ev σ) = vs) : (execOp (ev σ) ⟨dst, .call ⟨.value (.func 247), xs, ats⟩, ty, pos, aft, none⟩).run Tryd.prog w = .ok (.enter 247 vs.toArray) w := x_call Tryd.func247 (by kernel_rfl) rfl hv
theorem c248 {vs : List Value} (hv : xs.toList.map (ev σ) = vs) : (execOp (ev σ) ⟨dst, .call ⟨.value (.func 248), xs, ats⟩, ty, pos, aft, none⟩).run Tryd.prog w = .ok (.enter 248 vs.toArray) w := x_call Tryd.func248 (by kernel_rfl) rfl hv
theorem c249 {vs : List Value} (hv : xs.toList.map (ev σ) = vs) : (execOp (ev σ) ⟨dst, .call ⟨.value (.func 249), xs, ats⟩, ty, pos, aft, none⟩).run Tryd.prog w = .ok (.enter 249 vs.toArray) w := x_call Tryd.func249 (by kernel_rfl) rfl hv
theorem c250 {vs : List Value} (hv : xs.toList.map (ev σ) = vs) : (execOp (ev σ) ⟨dst, .call ⟨.value (.func 250), xs, ats⟩, ty, pos, aft, none⟩).run Tryd.prog w = .ok (.enter 250 vs.toArray) w := x_call Tryd.func250 (by kernel_rfl) rfl hv
theorem c251 {vs : List Value} (hv : xs.toList.map (ev σ) = vs) : (execOp (ev σ) ⟨dst, .call ⟨.value (.func 251), xs, ats⟩, ty, pos, aft, none⟩).run Tryd.prog w = .ok (.enter 251 vs.toArray) w := x_call Tryd.func251 (by kernel_rfl) rfl hv
theorem c252 {vs : List Value} (hv : xs.toList.map (ev σ) = vs) : (execOp (ev σ) ⟨dst, .call ⟨.value (.func 252), xs, ats⟩, ty, pos, aft, none⟩).run Tryd.prog w = .ok (.enter 252 vs.toArray) w := x_call Tryd.func252 (by kernel_rfl) rfl hv
theorem c253 {vs : List Value} (hv : xs.toList.map (ev σ) = vs) : (execOp (ev σ) ⟨dst, .call ⟨.value (.func 253), xs, ats⟩, ty, pos, aft, none⟩).run Tryd.prog w = .ok (.enter 253 vs.toArray) w := x_call Tryd.func253 (by kernel_rfl) rfl hv
theorem c254 {vs : List Value} (hv : xs.toList.map (ev σ) = vs) : (execOp (ev σ) ⟨dst, .call ⟨.value (.func 254), xs, ats⟩, ty, pos, aft, none⟩).run Tryd.prog w = .ok (.enter 254 vs.toArray) w := x_call Tryd.func254 (by kernel_rfl) rfl hv
theorem c255 {vs : List Value} (hv : xs.toList.map (ev σ) = vs) : (execOp (ev σ) ⟨dst, .call ⟨.value (.func 255), xs, ats⟩, ty, pos, aft, none⟩).run Tryd.prog w = .ok (.enter 255 vs.toArray) w := x_call Tryd.func255 (by kernel_rfl) rfl hv
theorem c256 {vs : List Value} (hv : xs.toList.map (ev σ) = vs) : (execOp (ev σ) ⟨dst, .call ⟨.value (.func 256), xs, ats⟩, ty, pos, aft, none⟩).run Tryd.prog w = .ok (.enter 256 vs.toArray) w := x_call Tryd.func256 (by kernel_rfl) rfl hv
theorem c257 {vs : List Value} (hv : xs.toList.map (ev σ) = vs) : (execOp (ev σ) ⟨dst, .call ⟨.value (.func 257), xs, ats⟩, ty, pos, aft, none⟩).run Tryd.prog w = .ok (.enter 257 vs.toArray) w := x_call Tryd.func257 (by kernel_rfl) rfl hv
theorem c258 {vs : List Value} (hv : xs.toList.map (ev σ) = vs) : (execOp (ev σ) ⟨dst, .call ⟨.value (.func 258), xs, ats⟩, ty, pos, aft, none⟩).run Tryd.prog w = .ok (.enter 258 vs.toArray) w := x_call Tryd.func258 (by kernel_rfl) rfl hv
theorem c259 {vs : List Value} (hv : xs.toList.map (ev σ) = vs) : (execOp (ev σ) ⟨dst, .call ⟨.value (.func 259), xs, ats⟩, ty, pos, aft, none⟩).run Tryd.prog w = .ok (.enter 259 vs.toArray) w := x_call Tryd.func259 (by kernel_rfl) rfl hv
theorem c260 {vs : List Value} (hv : xs.toList.map (ev σ) = vs) : (execOp (ev σ) ⟨dst, .call ⟨.value (.func 260), xs, ats⟩, ty, pos, aft, none⟩).run Tryd.prog w = .ok (.enter 260 vs.toArray) w := x_call Tryd.func260 (by kernel_rfl) rfl hv
theorem c261 {vs : List Value} (hv : xs.toList.map (ev σ) = vs) : (execOp (ev σ) ⟨dst, .call ⟨.value (.func 261), xs, ats⟩, ty, pos, aft, none⟩).run Tryd.prog w = .ok (.enter 261 vs.toArray) w := x_call Tryd.func261 (by kernel_rfl) rfl hv
theorem c262 {vs : List Value} (hv : xs.toList.map (ev σ) = vs) : (execOp (ev σ) ⟨dst, .call ⟨.value (.func 262), xs, ats⟩, ty, pos, aft, none⟩).run Tryd.prog w = .ok (.enter 262 vs.toArray) w := x_call Tryd.func262 (by kernel_rfl) rfl hv
theorem c263 {vs : List Value} (hv : xs.toList.map (ev σ) = vs) : (execOp (ev σ) ⟨dst, .call ⟨.value (.func 263), xs, ats⟩, ty, pos, aft, none⟩).run Tryd.prog w = .ok (.enter 263 vs.toArray) w := x_call Tryd.func263 (by kernel_rfl) rfl hv
theorem c264 {vs : List Value} (hv : xs.toList.map (ev σ) = vs) : (execOp (ev σ) ⟨dst, .call ⟨.value (.func 264), xs, ats⟩, ty, pos, aft, none⟩).run Tryd.prog w = .ok (.enter 264 vs.toArray) w := x_call Tryd.func264 (by kernel_rfl) rfl hv
theorem c265 {vs : List Value} (hv : xs.toList.map (ev σ) = vs) : (execOp (ev σ) ⟨dst, .call ⟨.value (.func 265), xs, ats⟩, ty, pos, aft, none⟩).run Tryd.prog w = .ok (.enter 265 vs.toArray) w := x_call Tryd.func265 (by kernel_rfl) rfl hv
theorem c266 {vs : List Value} (hv : xs.toList.map (ev σ) = vs) : (execOp (ev σ) ⟨dst, .call ⟨.value (.func 266), xs, ats⟩, ty, pos, aft, none⟩).run Tryd.prog w = .ok (.enter 266 vs.toArray) w := x_call Tryd.func266 (by kernel_rfl) rfl hv
theorem c267 {vs : List Value} (hv : xs.toList.map (ev σ) = vs) : (execOp (ev σ) ⟨dst, .call ⟨.value (.func 267), xs, ats⟩, ty, pos, aft, none⟩).run Tryd.prog w = .ok (.enter 267 vs.toArray) w := x_call Tryd.func267 (by kernel_rfl) rfl hv
theorem c268 {vs : List Value} (hv : xs.toList.map (ev σ) = vs) : (execOp (ev σ) ⟨dst, .call ⟨.value (.func 268), xs, ats⟩, ty, pos, aft, none⟩).run Tryd.prog w = .ok (.enter 268 vs.toArray) w := x_call Tryd.func268 (by kernel_rfl) rfl hv
theorem c269 {vs : List Value} (hv : xs.toList.map (ev σ) = vs) : (execOp (ev σ) ⟨dst, .call ⟨.value (.func 269), xs, ats⟩, ty, pos, aft, none⟩).run Tryd.prog w = .ok (.enter 269 vs.toArray) w := x_call Tryd.func269 (by kernel_rfl) rfl hv
theorem c270 {vs : List Value} (hv : xs.toList.map (ev σ) = vs) : (execOp (ev σ) ⟨dst, .call ⟨.value (.func 270), xs, ats⟩, ty, pos, aft, none⟩).run Tryd.prog w = .ok (.enter 270 vs.toArray) w := x_call Tryd.func270 (by kernel_rfl) rfl hv
theorem c271 {vs : List Value} (hv : xs.toList.map (ev σ) = vs) : (execOp (ev σ) ⟨dst, .call ⟨.value (.func 271), xs, ats⟩, ty, pos, aft, none⟩).run Tryd.prog w = .ok (.enter 271 vs.toArray) w := x_call Tryd.func271 (by kernel_rfl) rfl hv
theorem c272 {vs : List Value} (hv : xs.toList.map (ev σ) = vs) : (execOp (ev σ) ⟨dst, .call ⟨.value (.func 272), xs, ats⟩, ty, pos, aft, none⟩).run Tryd.prog w = .ok (.enter 272 vs.toArray) w := x_call Tryd.func272 (by kernel_rfl) rfl hv
theorem c273 {vs : List Value} (hv : xs.toList.map (ev σ) = vs) : (execOp (ev σ) ⟨dst, .call ⟨.value (.func 273), xs, ats⟩, ty, pos, aft, none⟩).run Tryd.prog w = .ok (.enter 273 vs.toArray) w := x_call Tryd.func273 (by kernel_rfl) rfl hv
theorem c274 {vs : List Value} (hv : xs.toList.map (ev σ) = vs) : (execOp (ev σ) ⟨dst, .call ⟨.value (.func 274), xs, ats⟩, ty, pos, aft, none⟩).run Tryd.prog w = .ok (.enter 274 vs.toArray) w := x_call Tryd.func274 (by kernel_rfl) rfl hv
theorem c275 {vs : List Value} (hv : xs.toList.map (ev σ) = vs) : (execOp (ev σ) ⟨dst, .call ⟨.value (.func 275), xs, ats⟩, ty, pos, aft, none⟩).run Tryd.prog w = .ok (.enter 275 vs.toArray) w := x_call Tryd.func275 (by kernel_rfl) rfl hv
theorem c276 {vs : List Value} (hv : xs.toList.map (ev σ) = vs) : (execOp (ev σ) ⟨dst, .call ⟨.value (.func 276), xs, ats⟩, ty, pos, aft, none⟩).run Tryd.prog w = .ok (.enter 276 vs.toArray) w := x_call Tryd.func276 (by kernel_rfl) rfl hv
theorem c277 {vs : List Value} (hv : xs.toList.map (ev σ) = vs) : (execOp (ev σ) ⟨dst, .call ⟨.value (.func 277), xs, ats⟩, ty, pos, aft, none⟩).run Tryd.prog w = .ok (.enter 277 vs.toArray) w := x_call Tryd.func277 (by kernel_rfl) rfl hv
theorem c278 {vs : List Value} (hv : xs.toList.map (ev σ) = vs) : (execOp (ev σ) ⟨dst, .call ⟨.value (.func 278), xs, ats⟩, ty, pos, aft, none⟩).run Tryd.prog w = .ok (.enter 278 vs.toArray) w := x_call Tryd.func278 (by kernel_rfl) rfl hv
theorem c279 {vs : List Value} (hv : xs.toList.map (ev σ) = vs) : (execOp (ev σ) ⟨dst, .call ⟨.value (.func 279), xs, ats⟩, ty, pos, aft, none⟩).run Tryd.prog w = .ok (.enter 279 vs.toArray) w := x_call Tryd.func279 (by kernel_rfl) rfl hv
theorem c280 {vs : List Value} (hv : xs.toList.map (ev σ) = vs) : (execOp (ev σ) ⟨dst, .call ⟨.value (.func 280), xs, ats⟩, ty, pos, aft, none⟩).run Tryd.prog w = .ok (.enter 280 vs.toArray) w := x_call Tryd.func280 (by kernel_rfl) rfl hv
theorem c281 {vs : List Value} (hv : xs.toList.map (ev σ) = vs) : (execOp (ev σ) ⟨dst, .call ⟨.value (.func 281), xs, ats⟩, ty, pos, aft, none⟩).run Tryd.prog w = .ok (.enter 281 vs.toArray) w := x_call Tryd.func281 (by kernel_rfl) rfl hv
theorem c282 {vs : List Value} (hv : xs.toList.map (ev σ) = vs) : (execOp (ev σ) ⟨dst, .call ⟨.value (.func 282), xs, ats⟩, ty, pos, aft, none⟩).run Tryd.prog w = .ok (.enter 282 vs.toArray) w := x_call Tryd.func282 (by kernel_rfl) rfl hv
theorem c283 {vs : List Value} (hv : xs.toList.map (ev σ) = vs) : (execOp (ev σ) ⟨dst, .call ⟨.value (.func 283), xs, ats⟩, ty, pos, aft, none⟩).run Tryd.prog w = .ok (.enter 283 vs.toArray) w := x_call Tryd.func283 (by kernel_rfl) rfl hv
theorem c284 {vs : List Value} (hv : xs.toList.map (ev σ) = vs) : (execOp (ev σ) ⟨dst, .call ⟨.value (.func 284), xs, ats⟩, ty, pos, aft, none⟩).run Tryd.prog w = .ok (.enter 284 vs.toArray) w := x_call Tryd.func284 (by kernel_rfl) rfl hv
theorem c304 {vs : List Value} (hv : xs.toList.map (ev σ) = vs) : (execOp (ev σ) ⟨dst, .call ⟨.value (.func 304), xs, ats⟩, ty, pos, aft, none⟩).run Tryd.prog w = .ok (.enter 304 vs.toArray) w := x_call Tryd.func304 (by kernel_rfl) rfl hv
end
end Go.Proofs.YthomkocjjkmnkaaDoor
