/-
  The types of the program, as far as its functions look at them: shapes, places, zero cells.
-/
import Derived.Test.YtdjeilbhdleopaaGreatProg
import Derived.KernelRfl
import Derived.Test.YtdjeilbhdleopaaGreatP04
set_option linter.unusedVariables false
set_option linter.unusedSimpArgs false
set_option maxHeartbeats 4000000
set_option maxRecDepth 10000
namespace Go.AW
open Go Go.Proofs
theorem T.mixed : Tryz.prog.follows .mixedOrders = true := by kernel_rfl
@[go_sem] theorem T.arrS_350 : arrS Tryz.prog 350 = some 4 := by kernel_rfl
@[go_sem] theorem T.arrS_397 : arrS Tryz.prog 397 = some 256 := by kernel_rfl
@[go_sem] theorem T.arrS_416 : arrS Tryz.prog 416 = some 8 := by kernel_rfl
@[go_sem] theorem T.arrT_350 : arrT Tryz.prog 350 = some (4, 1) := by kernel_rfl
@[go_sem] theorem T.arrT_397 : arrT Tryz.prog 397 = some (256, 1) := by kernel_rfl
@[go_sem] theorem T.arrT_416 : arrT Tryz.prog 416 = some (8, 1) := by kernel_rfl
@[go_sem] theorem T.eqT_35 : eqT Tryz.prog 35 = some [.s, .i] := by kernel_rfl
@[go_sem] theorem T.eqT_62 : eqT Tryz.prog 62 = some [.s, .s] := by kernel_rfl
@[go_sem] theorem T.eqT_103 : eqT Tryz.prog 103 = some [.s, .i, .i] := by kernel_rfl
@[go_sem] theorem T.eqT_149 : eqT Tryz.prog 149 = some [.s, .s] := by kernel_rfl
@[go_sem] theorem T.eqT_311 : eqT Tryz.prog 311 = some [.i, .s] := by kernel_rfl
@[go_sem] theorem T.fldOff_28_0 : fldOff Tryz.prog 28 0 = some 0 := by kernel_rfl
@[go_sem] theorem T.fldOff_28_1 : fldOff Tryz.prog 28 1 = some 1 := by kernel_rfl
@[go_sem] theorem T.fldOff_35_0 : fldOff Tryz.prog 35 0 = some 0 := by kernel_rfl
@[go_sem] theorem T.fldOff_35_1 : fldOff Tryz.prog 35 1 = some 1 := by kernel_rfl
@[go_sem] theorem T.fldOff_37_0 : fldOff Tryz.prog 37 0 = some 0 := by kernel_rfl
@[go_sem] theorem T.fldOff_37_1 : fldOff Tryz.prog 37 1 = some 1 := by kernel_rfl
@[go_sem] theorem T.fldOff_37_2 : fldOff Tryz.prog 37 2 = some 2 := by kernel_rfl
@[go_sem] theorem T.fldOff_40_0 : fldOff Tryz.prog 40 0 = some 0 := by kernel_rfl
@[go_sem] theorem T.fldOff_40_1 : fldOff Tryz.prog 40 1 = some 4 := by kernel_rfl
@[go_sem] theorem T.fldOff_40_2 : fldOff Tryz.prog 40 2 = some 5 := by kernel_rfl
@[go_sem] theorem T.fldOff_40_3 : fldOff Tryz.prog 40 3 = some 6 := by kernel_rfl
@[go_sem] theorem T.fldOff_45_0 : fldOff Tryz.prog 45 0 = some 0 := by kernel_rfl
@[go_sem] theorem T.fldOff_45_1 : fldOff Tryz.prog 45 1 = some 1 := by kernel_rfl
@[go_sem] theorem T.fldOff_45_2 : fldOff Tryz.prog 45 2 = some 2 := by kernel_rfl
@[go_sem] theorem T.fldOff_45_3 : fldOff Tryz.prog 45 3 = some 3 := by kernel_rfl
@[go_sem] theorem T.fldOff_45_4 : fldOff Tryz.prog 45 4 = some 4 := by kernel_rfl
@[go_sem] theorem T.fldOff_45_5 : fldOff Tryz.prog 45 5 = some 5 := by kernel_rfl
@[go_sem] theorem T.fldOff_45_6 : fldOff Tryz.prog 45 6 = some 12 := by kernel_rfl
@[go_sem] theorem T.fldOff_57_0 : fldOff Tryz.prog 57 0 = some 0 := by kernel_rfl
@[go_sem] theorem T.fldOff_62_0 : fldOff Tryz.prog 62 0 = some 0 := by kernel_rfl
@[go_sem] theorem T.fldOff_62_1 : fldOff Tryz.prog 62 1 = some 1 := by kernel_rfl
@[go_sem] theorem T.fldOff_91_0 : fldOff Tryz.prog 91 0 = some 0 := by kernel_rfl
@[go_sem] theorem T.fldOff_91_1 : fldOff Tryz.prog 91 1 = some 1 := by kernel_rfl
@[go_sem] theorem T.fldOff_94_0 : fldOff Tryz.prog 94 0 = some 0 := by kernel_rfl
@[go_sem] theorem T.fldOff_94_1 : fldOff Tryz.prog 94 1 = some 1 := by kernel_rfl
@[go_sem] theorem T.fldOff_94_2 : fldOff Tryz.prog 94 2 = some 2 := by kernel_rfl
@[go_sem] theorem T.fldOff_94_3 : fldOff Tryz.prog 94 3 = some 3 := by kernel_rfl
@[go_sem] theorem T.fldOff_97_0 : fldOff Tryz.prog 97 0 = some 0 := by kernel_rfl
@[go_sem] theorem T.fldOff_97_1 : fldOff Tryz.prog 97 1 = some 1 := by kernel_rfl
@[go_sem] theorem T.fldOff_97_2 : fldOff Tryz.prog 97 2 = some 2 := by kernel_rfl
@[go_sem] theorem T.fldOff_97_3 : fldOff Tryz.prog 97 3 = some 3 := by kernel_rfl
@[go_sem] theorem T.fldOff_97_4 : fldOff Tryz.prog 97 4 = some 4 := by kernel_rfl
@[go_sem] theorem T.fldOff_97_5 : fldOff Tryz.prog 97 5 = some 6 := by kernel_rfl
@[go_sem] theorem T.fldOff_97_6 : fldOff Tryz.prog 97 6 = some 8 := by kernel_rfl
@[go_sem] theorem T.fldOff_97_7 : fldOff Tryz.prog 97 7 = some 9 := by kernel_rfl
@[go_sem] theorem T.fldOff_97_8 : fldOff Tryz.prog 97 8 = some 10 := by kernel_rfl
@[go_sem] theorem T.fldOff_97_9 : fldOff Tryz.prog 97 9 = some 11 := by kernel_rfl
@[go_sem] theorem T.fldOff_97_10 : fldOff Tryz.prog 97 10 = some 12 := by kernel_rfl
@[go_sem] theorem T.fldOff_97_11 : fldOff Tryz.prog 97 11 = some 13 := by kernel_rfl
@[go_sem] theorem T.fldOff_97_12 : fldOff Tryz.prog 97 12 = some 17 := by kernel_rfl
@[go_sem] theorem T.fldOff_97_13 : fldOff Tryz.prog 97 13 = some 18 := by kernel_rfl
@[go_sem] theorem T.fldOff_97_14 : fldOff Tryz.prog 97 14 = some 19 := by kernel_rfl
@[go_sem] theorem T.fldOff_103_0 : fldOff Tryz.prog 103 0 = some 0 := by kernel_rfl
@[go_sem] theorem T.fldOff_103_1 : fldOff Tryz.prog 103 1 = some 1 := by kernel_rfl
@[go_sem] theorem T.fldOff_103_2 : fldOff Tryz.prog 103 2 = some 2 := by kernel_rfl
@[go_sem] theorem T.fldOff_106_0 : fldOff Tryz.prog 106 0 = some 0 := by kernel_rfl
@[go_sem] theorem T.fldOff_106_1 : fldOff Tryz.prog 106 1 = some 1 := by kernel_rfl
@[go_sem] theorem T.fldOff_106_2 : fldOff Tryz.prog 106 2 = some 2 := by kernel_rfl
@[go_sem] theorem T.fldOff_120_2 : fldOff Tryz.prog 120 2 = some 0 := by kernel_rfl
@[go_sem] theorem T.fldOff_122_0 : fldOff Tryz.prog 122 0 = some 0 := by kernel_rfl
@[go_sem] theorem T.fldOff_122_1 : fldOff Tryz.prog 122 1 = some 1 := by kernel_rfl
@[go_sem] theorem T.fldOff_149_0 : fldOff Tryz.prog 149 0 = some 0 := by kernel_rfl
@[go_sem] theorem T.fldOff_149_1 : fldOff Tryz.prog 149 1 = some 1 := by kernel_rfl
@[go_sem] theorem T.fldOff_186_0 : fldOff Tryz.prog 186 0 = some 0 := by kernel_rfl
@[go_sem] theorem T.fldOff_186_1 : fldOff Tryz.prog 186 1 = some 1 := by kernel_rfl
@[go_sem] theorem T.fldOff_192_0 : fldOff Tryz.prog 192 0 = some 0 := by kernel_rfl
@[go_sem] theorem T.fldOff_192_1 : fldOff Tryz.prog 192 1 = some 1 := by kernel_rfl
@[go_sem] theorem T.fldOff_192_2 : fldOff Tryz.prog 192 2 = some 2 := by kernel_rfl
@[go_sem] theorem T.fldOff_231_0 : fldOff Tryz.prog 231 0 = some 0 := by kernel_rfl
@[go_sem] theorem T.fldOff_231_1 : fldOff Tryz.prog 231 1 = some 1 := by kernel_rfl
@[go_sem] theorem T.fldOff_231_2 : fldOff Tryz.prog 231 2 = some 2 := by kernel_rfl
@[go_sem] theorem T.fldOff_287_0 : fldOff Tryz.prog 287 0 = some 0 := by kernel_rfl
@[go_sem] theorem T.fldOff_287_1 : fldOff Tryz.prog 287 1 = some 1 := by kernel_rfl
@[go_sem] theorem T.fldOff_287_2 : fldOff Tryz.prog 287 2 = some 2 := by kernel_rfl
@[go_sem] theorem T.fldOff_305_0 : fldOff Tryz.prog 305 0 = some 0 := by kernel_rfl
@[go_sem] theorem T.fldOff_309_0 : fldOff Tryz.prog 309 0 = some 0 := by kernel_rfl
@[go_sem] theorem T.fldOff_309_1 : fldOff Tryz.prog 309 1 = some 1 := by kernel_rfl
@[go_sem] theorem T.fldOff_309_2 : fldOff Tryz.prog 309 2 = some 2 := by kernel_rfl
@[go_sem] theorem T.fldOff_311_0 : fldOff Tryz.prog 311 0 = some 0 := by kernel_rfl
@[go_sem] theorem T.fldOff_311_1 : fldOff Tryz.prog 311 1 = some 1 := by kernel_rfl
@[go_sem] theorem T.fldOff_314_0 : fldOff Tryz.prog 314 0 = some 0 := by kernel_rfl
@[go_sem] theorem T.fldOff_314_1 : fldOff Tryz.prog 314 1 = some 1 := by kernel_rfl
@[go_sem] theorem T.fldOff_314_2 : fldOff Tryz.prog 314 2 = some 2 := by kernel_rfl
@[go_sem] theorem T.fldOff_314_3 : fldOff Tryz.prog 314 3 = some 3 := by kernel_rfl
@[go_sem] theorem T.fldOff_329_0 : fldOff Tryz.prog 329 0 = some 0 := by kernel_rfl
@[go_sem] theorem T.fldOff_329_1 : fldOff Tryz.prog 329 1 = some 1 := by kernel_rfl
@[go_sem] theorem T.fldOff_346_0 : fldOff Tryz.prog 346 0 = some 0 := by kernel_rfl
@[go_sem] theorem T.fldOff_346_1 : fldOff Tryz.prog 346 1 = some 1 := by kernel_rfl
@[go_sem] theorem T.fldOff_346_2 : fldOff Tryz.prog 346 2 = some 2 := by kernel_rfl
@[go_sem] theorem T.fldOff_352_0 : fldOff Tryz.prog 352 0 = some 0 := by kernel_rfl
@[go_sem] theorem T.fldOff_352_1 : fldOff Tryz.prog 352 1 = some 1 := by kernel_rfl
@[go_sem] theorem T.fldOff_364_0 : fldOff Tryz.prog 364 0 = some 0 := by kernel_rfl
@[go_sem] theorem T.fldOff_364_1 : fldOff Tryz.prog 364 1 = some 1 := by kernel_rfl
@[go_sem] theorem T.fldOff_364_2 : fldOff Tryz.prog 364 2 = some 2 := by kernel_rfl
@[go_sem] theorem T.fldOff_364_3 : fldOff Tryz.prog 364 3 = some 3 := by kernel_rfl
@[go_sem] theorem T.fldOff_390_1 : fldOff Tryz.prog 390 1 = some 0 := by kernel_rfl
@[go_sem] theorem T.fldOff_392_0 : fldOff Tryz.prog 392 0 = some 0 := by kernel_rfl
@[go_sem] theorem T.fldOff_392_1 : fldOff Tryz.prog 392 1 = some 1 := by kernel_rfl
@[go_sem] theorem T.fldOff_394_1 : fldOff Tryz.prog 394 1 = some 0 := by kernel_rfl
@[go_sem] theorem T.fldOff_396_1 : fldOff Tryz.prog 396 1 = some 0 := by kernel_rfl
@[go_sem] theorem T.fldOff_396_2 : fldOff Tryz.prog 396 2 = some 1 := by kernel_rfl
@[go_sem] theorem T.fldOff_399_0 : fldOff Tryz.prog 399 0 = some 0 := by kernel_rfl
@[go_sem] theorem T.fldOff_399_1 : fldOff Tryz.prog 399 1 = some 3 := by kernel_rfl
@[go_sem] theorem T.fldOff_399_2 : fldOff Tryz.prog 399 2 = some 4 := by kernel_rfl
@[go_sem] theorem T.intT_3 : intT Tryz.prog 3 = some .i64 := by kernel_rfl
@[go_sem] theorem T.intT_5 : intT Tryz.prog 5 = some .u8 := by kernel_rfl
@[go_sem] theorem T.intT_33 : intT Tryz.prog 33 = some .u64 := by kernel_rfl
@[go_sem] theorem T.intT_228 : intT Tryz.prog 228 = some .u32 := by kernel_rfl
@[go_sem] theorem T.intT_339 : intT Tryz.prog 339 = some .u64 := by kernel_rfl
@[go_sem] theorem T.intT_469 : intT Tryz.prog 469 = some .u64 := by kernel_rfl
@[go_sem] theorem T.isB_4 : isB Tryz.prog 4 = true := by kernel_rfl
@[go_sem] theorem T.isK_3 : isK Tryz.prog 3 = true := by kernel_rfl
@[go_sem] theorem T.isK_5 : isK Tryz.prog 5 = true := by kernel_rfl
@[go_sem] theorem T.isK_33 : isK Tryz.prog 33 = true := by kernel_rfl
@[go_sem] theorem T.isK_195 : isK Tryz.prog 195 = true := by kernel_rfl
@[go_sem] theorem T.isK_228 : isK Tryz.prog 228 = true := by kernel_rfl
@[go_sem] theorem T.isK_327 : isK Tryz.prog 327 = true := by kernel_rfl
@[go_sem] theorem T.isK_339 : isK Tryz.prog 339 = true := by kernel_rfl
@[go_sem] theorem T.isK_434 : isK Tryz.prog 434 = true := by kernel_rfl
@[go_sem] theorem T.isK_485 : isK Tryz.prog 485 = true := by kernel_rfl
@[go_sem] theorem T.isP_24 : isP Tryz.prog 24 = true := by kernel_rfl
@[go_sem] theorem T.isP_179 : isP Tryz.prog 179 = true := by kernel_rfl
@[go_sem] theorem T.isP_201 : isP Tryz.prog 201 = true := by kernel_rfl
@[go_sem] theorem T.isP_256 : isP Tryz.prog 256 = true := by kernel_rfl
@[go_sem] theorem T.isP_260 : isP Tryz.prog 260 = true := by kernel_rfl
@[go_sem] theorem T.isP_302 : isP Tryz.prog 302 = true := by kernel_rfl
@[go_sem] theorem T.isP_327 : isP Tryz.prog 327 = true := by kernel_rfl
@[go_sem] theorem T.isS_9 : isS Tryz.prog 9 = true := by kernel_rfl
@[go_sem] theorem T.plc_28 : plc Tryz.prog 28 = some ([.string ⟨#[]⟩, .slice none 0 0], [(0, 1), (1, 1)]) := by kernel_rfl
@[go_sem] theorem T.plc_35 : plc Tryz.prog 35 = some ([.string ⟨#[]⟩, .int .u64 0], [(0, 1), (1, 1)]) := by kernel_rfl
@[go_sem] theorem T.plc_37 : plc Tryz.prog 37 = some ([.slice none 0 0, .bool false, .string ⟨#[]⟩, .int .u64 0], [(0, 1), (1, 1), (2, 2)]) := by kernel_rfl
@[go_sem] theorem T.plc_40 : plc Tryz.prog 40 = some ([.slice none 0 0, .bool false, .string ⟨#[]⟩, .int .u64 0, .slice none 0 0, .bool false, .string ⟨#[]⟩], [(0, 4), (4, 1), (5, 1), (6, 1)]) := by kernel_rfl
@[go_sem] theorem T.plc_45 : plc Tryz.prog 45 = some ([.int .i64 0, .string ⟨#[]⟩, .slice none 0 0, .bool false, .string ⟨#[]⟩, .slice none 0 0, .bool false, .string ⟨#[]⟩, .int .u64 0, .slice none 0 0, .bool false, .string ⟨#[]⟩, .string ⟨#[]⟩, .slice none 0 0], [(0, 1), (1, 1), (2, 1), (3, 1), (4, 1), (5, 7), (12, 2)]) := by kernel_rfl
@[go_sem] theorem T.plc_57 : plc Tryz.prog 57 = some ([.slice none 0 0], [(0, 1)]) := by kernel_rfl
@[go_sem] theorem T.plc_62 : plc Tryz.prog 62 = some ([.string ⟨#[]⟩, .string ⟨#[]⟩], [(0, 1), (1, 1)]) := by kernel_rfl
@[go_sem] theorem T.plc_91 : plc Tryz.prog 91 = some ([.string ⟨#[]⟩, .slice none 0 0], [(0, 1), (1, 1)]) := by kernel_rfl
@[go_sem] theorem T.plc_94 : plc Tryz.prog 94 = some ([.string ⟨#[]⟩, .bool false, .slice none 0 0, .slice none 0 0], [(0, 1), (1, 1), (2, 1), (3, 1)]) := by kernel_rfl
@[go_sem] theorem T.plc_97 : plc Tryz.prog 97 = some ([.int .u8 0, .int .u64 0, .string ⟨#[]⟩, .bool false, .string ⟨#[]⟩, .slice none 0 0, .string ⟨#[]⟩, .slice none 0 0, .slice none 0 0, .slice none 0 0, .bool false, .string ⟨#[]⟩, .string ⟨#[]⟩, .string ⟨#[]⟩, .bool false, .slice none 0 0, .slice none 0 0, .slice none 0 0, .int .i64 0, .string ⟨#[]⟩], [(0, 1), (1, 1), (2, 1), (3, 1), (4, 2), (6, 2), (8, 1), (9, 1), (10, 1), (11, 1), (12, 1), (13, 4), (17, 1), (18, 1), (19, 1)]) := by kernel_rfl
@[go_sem] theorem T.plc_103 : plc Tryz.prog 103 = some ([.string ⟨#[]⟩, .int .i64 0, .int .i64 0], [(0, 1), (1, 1), (2, 1)]) := by kernel_rfl
@[go_sem] theorem T.plc_106 : plc Tryz.prog 106 = some ([.int .u8 0, .int .u8 0, .string ⟨#[]⟩], [(0, 1), (1, 1), (2, 1)]) := by kernel_rfl
@[go_sem] theorem T.plc_122 : plc Tryz.prog 122 = some ([.slice none 0 0, .int .i64 0], [(0, 1), (1, 1)]) := by kernel_rfl
@[go_sem] theorem T.plc_149 : plc Tryz.prog 149 = some ([.string ⟨#[]⟩, .string ⟨#[]⟩], [(0, 1), (1, 1)]) := by kernel_rfl
@[go_sem] theorem T.plc_186 : plc Tryz.prog 186 = some ([.string ⟨#[]⟩, .nilFunc], [(0, 1), (1, 1)]) := by kernel_rfl
@[go_sem] theorem T.plc_192 : plc Tryz.prog 192 = some ([.string ⟨#[]⟩, .int .i64 0, .int .i64 0], [(0, 1), (1, 1), (2, 1)]) := by kernel_rfl
@[go_sem] theorem T.plc_231 : plc Tryz.prog 231 = some ([.string ⟨#[]⟩, .int .i64 0, .int .i64 0], [(0, 1), (1, 1), (2, 1)]) := by kernel_rfl
@[go_sem] theorem T.plc_287 : plc Tryz.prog 287 = some ([.string ⟨#[]⟩, .int .i64 0, .int .i64 0], [(0, 1), (1, 1), (2, 1)]) := by kernel_rfl
@[go_sem] theorem T.plc_305 : plc Tryz.prog 305 = some ([.pointer none], [(0, 1)]) := by kernel_rfl
@[go_sem] theorem T.plc_309 : plc Tryz.prog 309 = some ([.slice none 0 0, .bool false, .string ⟨#[]⟩], [(0, 1), (1, 1), (2, 1)]) := by kernel_rfl
@[go_sem] theorem T.plc_311 : plc Tryz.prog 311 = some ([.int .u8 0, .string ⟨#[]⟩], [(0, 1), (1, 1)]) := by kernel_rfl
@[go_sem] theorem T.plc_346 : plc Tryz.prog 346 = some ([.slice none 0 0, .int .i64 0, .int .i64 0], [(0, 1), (1, 1), (2, 1)]) := by kernel_rfl
@[go_sem] theorem T.plc_352 : plc Tryz.prog 352 = some ([.bool false, .int .u64 0, .int .u64 0, .int .u64 0, .int .u64 0], [(0, 1), (1, 4)]) := by kernel_rfl
@[go_sem] theorem T.plc_364 : plc Tryz.prog 364 = some ([.nilFunc, .nilFunc, .nilFunc, .nilFunc], [(0, 1), (1, 1), (2, 1), (3, 1)]) := by kernel_rfl
@[go_sem] theorem T.plc_399 : plc Tryz.prog 399 = some ([.int .u32 0, .int .i32 0, .int .u32 0, .int .u32 0, .int .u32 0, .int .u32 0, .int .u32 0, .int .u32 0, .int .u32 0, .int .u32 0, .int .u32 0, .int .u32 0, .int .u32 0, .int .u32 0, .int .u32 0, .int .u32 0, .int .u32 0, .int .u32 0, .int .u32 0, .int .u32 0, .int .u32 0, .int .u32 0, .int .u32 0, .int .u32 0, .int .u32 0, .int .u32 0, .int .u32 0, .int .u32 0, .int .u32 0, .int .u32 0, .int .u32 0, .int .u32 0, .int .u32 0, .int .u32 0, .int .u32 0, .int .u32 0, .int .u32 0, .int .u32 0, .int .u32 0, .int .u32 0, .int .u32 0, .int .u32 0, .int .u32 0, .int .u32 0, .int .u32 0, .int .u32 0, .int .u32 0, .int .u32 0, .int .u32 0, .int .u32 0, .int .u32 0, .int .u32 0, .int .u32 0, .int .u32 0, .int .u32 0, .int .u32 0, .int .u32 0, .int .u32 0, .int .u32 0, .int .u32 0, .int .u32 0, .int .u32 0, .int .u32 0, .int .u32 0, .int .u32 0, .int .u32 0, .int .u32 0, .int .u32 0, .int .u32 0, .int .u32 0, .int .u32 0, .int .u32 0, .int .u32 0, .int .u32 0, .int .u32 0, .int .u32 0, .int .u32 0, .int .u32 0, .int .u32 0, .int .u32 0, .int .u32 0, .int .u32 0, .int .u32 0, .int .u32 0, .int .u32 0, .int .u32 0, .int .u32 0, .int .u32 0, .int .u32 0, .int .u32 0, .int .u32 0, .int .u32 0, .int .u32 0, .int .u32 0, .int .u32 0, .int .u32 0, .int .u32 0, .int .u32 0, .int .u32 0, .int .u32 0, .int .u32 0, .int .u32 0, .int .u32 0, .int .u32 0, .int .u32 0, .int .u32 0, .int .u32 0, .int .u32 0, .int .u32 0, .int .u32 0, .int .u32 0, .int .u32 0, .int .u32 0, .int .u32 0, .int .u32 0, .int .u32 0, .int .u32 0, .int .u32 0, .int .u32 0, .int .u32 0, .int .u32 0, .int .u32 0, .int .u32 0, .int .u32 0, .int .u32 0, .int .u32 0, .int .u32 0, .int .u32 0, .int .u32 0, .int .u32 0, .int .u32 0, .int .u32 0, .int .u32 0, .int .u32 0, .int .u32 0, .int .u32 0, .int .u32 0, .int .u32 0, .int .u32 0, .int .u32 0, .int .u32 0, .int .u32 0, .int .u32 0, .int .u32 0, .int .u32 0, .int .u32 0, .int .u32 0, .int .u32 0, .int .u32 0, .int .u32 0, .int .u32 0, .int .u32 0, .int .u32 0, .int .u32 0, .int .u32 0, .int .u32 0, .int .u32 0, .int .u32 0, .int .u32 0, .int .u32 0, .int .u32 0, .int .u32 0, .int .u32 0, .int .u32 0, .int .u32 0, .int .u32 0, .int .u32 0, .int .u32 0, .int .u32 0, .int .u32 0, .int .u32 0, .int .u32 0, .int .u32 0, .int .u32 0, .int .u32 0, .int .u32 0, .int .u32 0, .int .u32 0, .int .u32 0, .int .u32 0, .int .u32 0, .int .u32 0, .int .u32 0, .int .u32 0, .int .u32 0, .int .u32 0, .int .u32 0, .int .u32 0, .int .u32 0, .int .u32 0, .int .u32 0, .int .u32 0, .int .u32 0, .int .u32 0, .int .u32 0, .int .u32 0, .int .u32 0, .int .u32 0, .int .u32 0, .int .u32 0, .int .u32 0, .int .u32 0, .int .u32 0, .int .u32 0, .int .u32 0, .int .u32 0, .int .u32 0, .int .u32 0, .int .u32 0, .int .u32 0, .int .u32 0, .int .u32 0, .int .u32 0, .int .u32 0, .int .u32 0, .int .u32 0, .int .u32 0, .int .u32 0, .int .u32 0, .int .u32 0, .int .u32 0, .int .u32 0, .int .u32 0, .int .u32 0, .int .u32 0, .int .u32 0, .int .u32 0, .int .u32 0, .int .u32 0, .int .u32 0, .int .u32 0, .int .u32 0, .int .u32 0, .int .u32 0, .int .u32 0, .int .u32 0, .int .u32 0, .int .u32 0, .int .u32 0, .int .u32 0, .int .u32 0, .int .u32 0, .int .u32 0, .int .u32 0, .int .u32 0, .int .u32 0, .int .u32 0, .int .u32 0, .int .u32 0, .int .u32 0, .int .u32 0, .int .u32 0, .int .u32 0, .int .u32 0, .int .u32 0, .int .u32 0, .int .u32 0, .int .u32 0, .int .u32 0, .int .u32 0], [(0, 3), (3, 1), (4, 256)]) := by kernel_rfl
@[go_sem] theorem T.shp_3 : shp Tryz.prog 3 = some none := by kernel_rfl
@[go_sem] theorem T.shp_4 : shp Tryz.prog 4 = some none := by kernel_rfl
@[go_sem] theorem T.shp_5 : shp Tryz.prog 5 = some none := by kernel_rfl
@[go_sem] theorem T.shp_9 : shp Tryz.prog 9 = some none := by kernel_rfl
@[go_sem] theorem T.shp_21 : shp Tryz.prog 21 = some none := by kernel_rfl
@[go_sem] theorem T.shp_22 : shp Tryz.prog 22 = some none := by kernel_rfl
@[go_sem] theorem T.shp_26 : shp Tryz.prog 26 = some none := by kernel_rfl
@[go_sem] theorem T.shp_28 : shp Tryz.prog 28 = some (some 2) := by kernel_rfl
@[go_sem] theorem T.shp_29 : shp Tryz.prog 29 = some none := by kernel_rfl
@[go_sem] theorem T.shp_32 : shp Tryz.prog 32 = some none := by kernel_rfl
@[go_sem] theorem T.shp_33 : shp Tryz.prog 33 = some none := by kernel_rfl
@[go_sem] theorem T.shp_35 : shp Tryz.prog 35 = some (some 2) := by kernel_rfl
@[go_sem] theorem T.shp_37 : shp Tryz.prog 37 = some (some 4) := by kernel_rfl
@[go_sem] theorem T.shp_38 : shp Tryz.prog 38 = some none := by kernel_rfl
@[go_sem] theorem T.shp_40 : shp Tryz.prog 40 = some (some 7) := by kernel_rfl
@[go_sem] theorem T.shp_45 : shp Tryz.prog 45 = some (some 14) := by kernel_rfl
@[go_sem] theorem T.shp_52 : shp Tryz.prog 52 = some none := by kernel_rfl
@[go_sem] theorem T.shp_62 : shp Tryz.prog 62 = some (some 2) := by kernel_rfl
@[go_sem] theorem T.shp_67 : shp Tryz.prog 67 = some none := by kernel_rfl
@[go_sem] theorem T.shp_89 : shp Tryz.prog 89 = some none := by kernel_rfl
@[go_sem] theorem T.shp_91 : shp Tryz.prog 91 = some (some 2) := by kernel_rfl
@[go_sem] theorem T.shp_92 : shp Tryz.prog 92 = some none := by kernel_rfl
@[go_sem] theorem T.shp_94 : shp Tryz.prog 94 = some (some 4) := by kernel_rfl
@[go_sem] theorem T.shp_95 : shp Tryz.prog 95 = some none := by kernel_rfl
@[go_sem] theorem T.shp_97 : shp Tryz.prog 97 = some (some 20) := by kernel_rfl
@[go_sem] theorem T.shp_103 : shp Tryz.prog 103 = some (some 3) := by kernel_rfl
@[go_sem] theorem T.shp_106 : shp Tryz.prog 106 = some (some 3) := by kernel_rfl
@[go_sem] theorem T.shp_130 : shp Tryz.prog 130 = some none := by kernel_rfl
@[go_sem] theorem T.shp_149 : shp Tryz.prog 149 = some (some 2) := by kernel_rfl
@[go_sem] theorem T.shp_166 : shp Tryz.prog 166 = some none := by kernel_rfl
@[go_sem] theorem T.shp_184 : shp Tryz.prog 184 = some none := by kernel_rfl
@[go_sem] theorem T.shp_186 : shp Tryz.prog 186 = some (some 2) := by kernel_rfl
@[go_sem] theorem T.shp_195 : shp Tryz.prog 195 = some none := by kernel_rfl
@[go_sem] theorem T.shp_228 : shp Tryz.prog 228 = some none := by kernel_rfl
@[go_sem] theorem T.shp_302 : shp Tryz.prog 302 = some none := by kernel_rfl
@[go_sem] theorem T.shp_309 : shp Tryz.prog 309 = some (some 3) := by kernel_rfl
@[go_sem] theorem T.shp_311 : shp Tryz.prog 311 = some (some 2) := by kernel_rfl
@[go_sem] theorem T.shp_312 : shp Tryz.prog 312 = some none := by kernel_rfl
@[go_sem] theorem T.shp_314 : shp Tryz.prog 314 = some (some 4) := by kernel_rfl
@[go_sem] theorem T.shp_327 : shp Tryz.prog 327 = some none := by kernel_rfl
@[go_sem] theorem T.shp_342 : shp Tryz.prog 342 = some none := by kernel_rfl
@[go_sem] theorem T.shp_350 : shp Tryz.prog 350 = some (some 4) := by kernel_rfl
@[go_sem] theorem T.shp_359 : shp Tryz.prog 359 = some none := by kernel_rfl
@[go_sem] theorem T.shp_360 : shp Tryz.prog 360 = some none := by kernel_rfl
@[go_sem] theorem T.shp_361 : shp Tryz.prog 361 = some none := by kernel_rfl
@[go_sem] theorem T.shp_362 : shp Tryz.prog 362 = some none := by kernel_rfl
@[go_sem] theorem T.shp_364 : shp Tryz.prog 364 = some (some 4) := by kernel_rfl
@[go_sem] theorem T.shp_377 : shp Tryz.prog 377 = some none := by kernel_rfl
@[go_sem] theorem T.shp_380 : shp Tryz.prog 380 = some none := by kernel_rfl
@[go_sem] theorem T.shp_416 : shp Tryz.prog 416 = some (some 8) := by kernel_rfl
@[go_sem] theorem T.shp_469 : shp Tryz.prog 469 = some none := by kernel_rfl
@[go_sem] theorem T.sliT_22 : sliT Tryz.prog 22 = some (9, 1, 16) := by kernel_rfl
@[go_sem] theorem T.sliT_26 : sliT Tryz.prog 26 = some (40, 7, 104) := by kernel_rfl
@[go_sem] theorem T.sliT_32 : sliT Tryz.prog 32 = some (35, 2, 24) := by kernel_rfl
@[go_sem] theorem T.sliT_38 : sliT Tryz.prog 38 = some (62, 2, 32) := by kernel_rfl
@[go_sem] theorem T.sliT_47 : sliT Tryz.prog 47 = some (45, 14, 216) := by kernel_rfl
@[go_sem] theorem T.sliT_52 : sliT Tryz.prog 52 = some (28, 2, 40) := by kernel_rfl
@[go_sem] theorem T.sliT_67 : sliT Tryz.prog 67 = some (149, 2, 32) := by kernel_rfl
@[go_sem] theorem T.sliT_69 : sliT Tryz.prog 69 = some (97, 20, 328) := by kernel_rfl
@[go_sem] theorem T.sliT_70 : sliT Tryz.prog 70 = some (3, 1, 8) := by kernel_rfl
@[go_sem] theorem T.sliT_80 : sliT Tryz.prog 80 = some (103, 3, 32) := by kernel_rfl
@[go_sem] theorem T.sliT_89 : sliT Tryz.prog 89 = some (309, 3, 48) := by kernel_rfl
@[go_sem] theorem T.sliT_92 : sliT Tryz.prog 92 = some (311, 2, 24) := by kernel_rfl
@[go_sem] theorem T.sliT_95 : sliT Tryz.prog 95 = some (314, 4, 56) := by kernel_rfl
@[go_sem] theorem T.sliT_130 : sliT Tryz.prog 130 = some (37, 4, 56) := by kernel_rfl
@[go_sem] theorem T.sliT_166 : sliT Tryz.prog 166 = some (106, 3, 24) := by kernel_rfl
@[go_sem] theorem T.sliT_183 : sliT Tryz.prog 183 = some (186, 2, 24) := by kernel_rfl
@[go_sem] theorem T.sliT_195 : sliT Tryz.prog 195 = some (5, 1, 1) := by kernel_rfl
@[go_sem] theorem T.sliT_244 : sliT Tryz.prog 244 = some (32, 1, 24) := by kernel_rfl
@[go_sem] theorem T.sliT_283 : sliT Tryz.prog 283 = some (364, 4, 32) := by kernel_rfl
@[go_sem] theorem T.sliT_312 : sliT Tryz.prog 312 = some (33, 1, 8) := by kernel_rfl
@[go_sem] theorem T.wid_3 : wid Tryz.prog 3 = some 1 := by kernel_rfl
@[go_sem] theorem T.wid_4 : wid Tryz.prog 4 = some 1 := by kernel_rfl
@[go_sem] theorem T.wid_5 : wid Tryz.prog 5 = some 1 := by kernel_rfl
@[go_sem] theorem T.wid_9 : wid Tryz.prog 9 = some 1 := by kernel_rfl
@[go_sem] theorem T.wid_22 : wid Tryz.prog 22 = some 1 := by kernel_rfl
@[go_sem] theorem T.wid_26 : wid Tryz.prog 26 = some 1 := by kernel_rfl
@[go_sem] theorem T.wid_28 : wid Tryz.prog 28 = some 2 := by kernel_rfl
@[go_sem] theorem T.wid_29 : wid Tryz.prog 29 = some 1 := by kernel_rfl
@[go_sem] theorem T.wid_32 : wid Tryz.prog 32 = some 1 := by kernel_rfl
@[go_sem] theorem T.wid_33 : wid Tryz.prog 33 = some 1 := by kernel_rfl
@[go_sem] theorem T.wid_35 : wid Tryz.prog 35 = some 2 := by kernel_rfl
@[go_sem] theorem T.wid_37 : wid Tryz.prog 37 = some 4 := by kernel_rfl
@[go_sem] theorem T.wid_38 : wid Tryz.prog 38 = some 1 := by kernel_rfl
@[go_sem] theorem T.wid_40 : wid Tryz.prog 40 = some 7 := by kernel_rfl
@[go_sem] theorem T.wid_45 : wid Tryz.prog 45 = some 14 := by kernel_rfl
@[go_sem] theorem T.wid_52 : wid Tryz.prog 52 = some 1 := by kernel_rfl
@[go_sem] theorem T.wid_62 : wid Tryz.prog 62 = some 2 := by kernel_rfl
@[go_sem] theorem T.wid_67 : wid Tryz.prog 67 = some 1 := by kernel_rfl
@[go_sem] theorem T.wid_89 : wid Tryz.prog 89 = some 1 := by kernel_rfl
@[go_sem] theorem T.wid_91 : wid Tryz.prog 91 = some 2 := by kernel_rfl
@[go_sem] theorem T.wid_92 : wid Tryz.prog 92 = some 1 := by kernel_rfl
@[go_sem] theorem T.wid_94 : wid Tryz.prog 94 = some 4 := by kernel_rfl
@[go_sem] theorem T.wid_95 : wid Tryz.prog 95 = some 1 := by kernel_rfl
@[go_sem] theorem T.wid_97 : wid Tryz.prog 97 = some 20 := by kernel_rfl
@[go_sem] theorem T.wid_103 : wid Tryz.prog 103 = some 3 := by kernel_rfl
@[go_sem] theorem T.wid_106 : wid Tryz.prog 106 = some 3 := by kernel_rfl
@[go_sem] theorem T.wid_149 : wid Tryz.prog 149 = some 2 := by kernel_rfl
@[go_sem] theorem T.wid_166 : wid Tryz.prog 166 = some 1 := by kernel_rfl
@[go_sem] theorem T.wid_186 : wid Tryz.prog 186 = some 2 := by kernel_rfl
@[go_sem] theorem T.wid_195 : wid Tryz.prog 195 = some 1 := by kernel_rfl
@[go_sem] theorem T.wid_228 : wid Tryz.prog 228 = some 1 := by kernel_rfl
@[go_sem] theorem T.wid_309 : wid Tryz.prog 309 = some 3 := by kernel_rfl
@[go_sem] theorem T.wid_311 : wid Tryz.prog 311 = some 2 := by kernel_rfl
@[go_sem] theorem T.wid_312 : wid Tryz.prog 312 = some 1 := by kernel_rfl
@[go_sem] theorem T.wid_314 : wid Tryz.prog 314 = some 4 := by kernel_rfl
@[go_sem] theorem T.wid_327 : wid Tryz.prog 327 = some 1 := by kernel_rfl
@[go_sem] theorem T.wid_350 : wid Tryz.prog 350 = some 4 := by kernel_rfl
@[go_sem] theorem T.wid_364 : wid Tryz.prog 364 = some 4 := by kernel_rfl
@[go_sem] theorem T.wid_469 : wid Tryz.prog 469 = some 1 := by kernel_rfl
@[go_sem] theorem T.zr_3 : zr Tryz.prog 3 = some [.int .i64 0] := by kernel_rfl
@[go_sem] theorem T.zr_28 : zr Tryz.prog 28 = some [.string ⟨#[]⟩, .slice none 0 0] := by kernel_rfl
@[go_sem] theorem T.zr_35 : zr Tryz.prog 35 = some [.string ⟨#[]⟩, .int .u64 0] := by kernel_rfl
@[go_sem] theorem T.zr_37 : zr Tryz.prog 37 = some [.slice none 0 0, .bool false, .string ⟨#[]⟩, .int .u64 0] := by kernel_rfl
@[go_sem] theorem T.zr_40 : zr Tryz.prog 40 = some [.slice none 0 0, .bool false, .string ⟨#[]⟩, .int .u64 0, .slice none 0 0, .bool false, .string ⟨#[]⟩] := by kernel_rfl
@[go_sem] theorem T.zr_45 : zr Tryz.prog 45 = some [.int .i64 0, .string ⟨#[]⟩, .slice none 0 0, .bool false, .string ⟨#[]⟩, .slice none 0 0, .bool false, .string ⟨#[]⟩, .int .u64 0, .slice none 0 0, .bool false, .string ⟨#[]⟩, .string ⟨#[]⟩, .slice none 0 0] := by kernel_rfl
@[go_sem] theorem T.zr_62 : zr Tryz.prog 62 = some [.string ⟨#[]⟩, .string ⟨#[]⟩] := by kernel_rfl
@[go_sem] theorem T.zr_91 : zr Tryz.prog 91 = some [.string ⟨#[]⟩, .slice none 0 0] := by kernel_rfl
@[go_sem] theorem T.zr_94 : zr Tryz.prog 94 = some [.string ⟨#[]⟩, .bool false, .slice none 0 0, .slice none 0 0] := by kernel_rfl
@[go_sem] theorem T.zr_97 : zr Tryz.prog 97 = some [.int .u8 0, .int .u64 0, .string ⟨#[]⟩, .bool false, .string ⟨#[]⟩, .slice none 0 0, .string ⟨#[]⟩, .slice none 0 0, .slice none 0 0, .slice none 0 0, .bool false, .string ⟨#[]⟩, .string ⟨#[]⟩, .string ⟨#[]⟩, .bool false, .slice none 0 0, .slice none 0 0, .slice none 0 0, .int .i64 0, .string ⟨#[]⟩] := by kernel_rfl
@[go_sem] theorem T.zr_103 : zr Tryz.prog 103 = some [.string ⟨#[]⟩, .int .i64 0, .int .i64 0] := by kernel_rfl
@[go_sem] theorem T.zr_106 : zr Tryz.prog 106 = some [.int .u8 0, .int .u8 0, .string ⟨#[]⟩] := by kernel_rfl
@[go_sem] theorem T.zr_149 : zr Tryz.prog 149 = some [.string ⟨#[]⟩, .string ⟨#[]⟩] := by kernel_rfl
@[go_sem] theorem T.zr_166 : zr Tryz.prog 166 = some [.slice none 0 0] := by kernel_rfl
@[go_sem] theorem T.zr_186 : zr Tryz.prog 186 = some [.string ⟨#[]⟩, .nilFunc] := by kernel_rfl
@[go_sem] theorem T.zr_309 : zr Tryz.prog 309 = some [.slice none 0 0, .bool false, .string ⟨#[]⟩] := by kernel_rfl
@[go_sem] theorem T.zr_311 : zr Tryz.prog 311 = some [.int .u8 0, .string ⟨#[]⟩] := by kernel_rfl
@[go_sem] theorem T.zr_314 : zr Tryz.prog 314 = some [.string ⟨#[]⟩, .int .u64 0, .int .u8 0, .slice none 0 0] := by kernel_rfl
@[go_sem] theorem T.zr_329 : zr Tryz.prog 329 = some [.pointer none, .slice none 0 0] := by kernel_rfl
@[go_sem] theorem T.zr_350 : zr Tryz.prog 350 = some [.int .u64 0, .int .u64 0, .int .u64 0, .int .u64 0] := by kernel_rfl
@[go_sem] theorem T.zr_364 : zr Tryz.prog 364 = some [.nilFunc, .nilFunc, .nilFunc, .nilFunc] := by kernel_rfl
@[go_sem] theorem T.zr_416 : zr Tryz.prog 416 = some [.int .u8 0, .int .u8 0, .int .u8 0, .int .u8 0, .int .u8 0, .int .u8 0, .int .u8 0, .int .u8 0] := by kernel_rfl
@[go_sem] theorem T.zr_469 : zr Tryz.prog 469 = some [.int .u64 0] := by kernel_rfl
end Go.AW
namespace Go.AW
open Go
attribute [go_sem] decide_true decide_false eqV V.flat1 flats1 ao ev look cv bin ibin shf sbin eqn onB onI add rdx rdV rdD elems srcOf setAt flat ones V.one Value.oneCell' toDs onesD D.one put dstOk gv nzs nz rens V.ren Ob.ren mrg gm
  fz fzs lts V.lt Ob.lt obsLt tLt keepT resV one1 ent buildCells fillV thenQ blockQ cvd bV bT bC bO List.contains List.elem cond_true cond_false
attribute [go_sem] true_and and_true if_true if_false ite_true ite_false List.drop_zero List.head?_cons exists_eq_left' exists_eq_left exists_eq_right Option.some.injEq Prod.mk.injEq List.length_cons List.length_nil List.getElem?_cons_zero List.getElem?_cons_succ
  List.drop_succ_cons List.take_succ_cons List.take_zero List.map_cons List.map_nil List.nil_append List.cons_append List.append_nil List.set_cons_zero List.set_cons_succ Bool.not_true Bool.not_false Nat.add_zero Nat.zero_add
  Option.map_some Option.map_none forall_const false_and and_false false_or or_false true_or or_true not_true_eq_false not_false_eq_true Bool.true_and Bool.false_and Bool.and_true Bool.and_false bs_size bs_append bs_extract bs_data and_self List.size_toArray Int.toNat_natCast
  bind_pure_comp List.drop_nil List.take_nil List.set_nil Option.isSome_some Option.isSome_none List.getD_cons_zero List.getD_cons_succ Nat.mul_one Nat.one_mul Nat.mul_zero Nat.zero_mul
attribute [go_sem] Nat.reduceEqDiff reduceCtorEq Nat.reduceAdd Nat.reduceMul Int.reduceLE Int.reduceLT Int.reduceToNat Nat.reduceLeDiff Nat.reduceSub Int.reduceAdd Int.reduceMul Int.reduceSub Int.reduceNeg Int.reduceEq Nat.reduceDiv Nat.reduceMod Nat.reduceLT Nat.reduceGT
attribute [go_sem ↓] reduceIte
def bsD (l : List UInt8) : List D := l.map fun b => .s (.int .u8 b.toNat)
theorem strD_bs (l : List UInt8) : strD ⟨l.toArray⟩ = bsD l := rfl
theorem bsD_append (l m : List UInt8) : bsD l ++ bsD m = bsD (l ++ m) := by simp [bsD]
theorem bsD_length (l : List UInt8) : (bsD l).length = l.length := by simp [bsD]
theorem onesD_bsD (l : List UInt8) : onesD (bsD l) = true := by
  induction l with
  | nil => rfl
  | cons b l ih => simp only [bsD, List.map_cons, onesD, D.one, Bool.and_eq_true]; exact ⟨rfl, ih⟩
theorem bsD_nums (l : List UInt8) : bsD l = (l.map fun b => (b.toNat : Int)).map fun n => .s (.int .u8 n) := by simp [bsD]
theorem strOfNums_bs (l : List UInt8) : strOfNums (l.map fun b => (b.toNat : Int)) = ⟨l.toArray⟩ := by
  simp [strOfNums, Function.comp_def]
theorem strOfNums_one (n : Int) : strOfNums [n] = ⟨[UInt8.ofNat n.toNat].toArray⟩ := rfl
attribute [go_sem] strD_bs bsD_append bsD_length onesD_bsD strOfNums_bs
theorem wrap_i64 {n : Int} (h1 : -9223372036854775808 ≤ n) (h2 : n ≤ 9223372036854775807) : IntKind.wrap .i64 n = n := by
  simp only [IntKind.wrap, IntKind.bits, IntKind.signed]
  simp
  omega
theorem wrap_u64 {n : Int} (h1 : 0 ≤ n) (h2 : n ≤ 18446744073709551615) : IntKind.wrap .u64 n = n := by
  simp only [IntKind.wrap, IntKind.bits, IntKind.signed]
  simp
  omega
theorem wrap_u32 {n : Int} (h1 : 0 ≤ n) (h2 : n ≤ 4294967295) : IntKind.wrap .u32 n = n := by
  simp only [IntKind.wrap, IntKind.bits, IntKind.signed]
  simp
  omega
theorem wrap_u8 {n : Int} (h1 : 0 ≤ n) (h2 : n ≤ 255) : IntKind.wrap .u8 n = n := by
  simp only [IntKind.wrap, IntKind.bits, IntKind.signed]
  simp
  omega
theorem pick_and (b x : Bool) : (if b = true then bv x else bv false) = bv (b && x) := by cases b <;> rfl
theorem pick_or (b x : Bool) : (if b = true then bv true else bv x) = bv (b || x) := by cases b <;> rfl
attribute [go_sem] pick_and pick_or
theorem wrap_bi (b : UInt8) : IntKind.wrap .i64 (b.toNat : Int) = b.toNat := wrap_i64 (by omega) (by have := b.toNat_lt; omega)
theorem wrap_bu (b : UInt8) : IntKind.wrap .u64 (b.toNat : Int) = b.toNat := wrap_u64 (by omega) (by have := b.toNat_lt; omega)
theorem wrap_bb (b : UInt8) : IntKind.wrap .u8 (b.toNat : Int) = b.toNat := wrap_u8 (by omega) (by have := b.toNat_lt; omega)
attribute [go_sem] wrap_i64 wrap_u64 wrap_u32 wrap_u8 wrap_bi wrap_bu wrap_bb
theorem ex_box {t : TypeId} {c : List V} {p : TypeId → List V → Prop} : (∃ T' cs, Ob.box t c = Ob.box T' cs ∧ p T' cs) ↔ p t c :=
  ⟨fun ⟨_, _, e, h⟩ => by cases e; exact h, fun h => ⟨_, _, rfl, h⟩⟩
theorem ex_row1 {E z n n' : Nat} {c : List D} {p : Nat → Nat → List D → List D → Prop} : (∃ E' z' cs ys, Ob.row E z n c = Ob.row E' z' n' cs ∧ p E' z' cs ys) ↔ n = n' ∧ ∃ ys, p E z c ys :=
  ⟨fun ⟨_, _, _, _, e, h⟩ => by cases e; exact ⟨rfl, _, h⟩, fun ⟨e, ys, h⟩ => ⟨_, _, _, _, by rw [e], h⟩⟩
theorem ex_row2 {E E' z z' n n' : Nat} {c : List D} {p : List D → Prop} : (∃ cs, Ob.row E z n c = Ob.row E' z' n' cs ∧ p cs) ↔ E = E' ∧ z = z' ∧ n = n' ∧ p c :=
  ⟨fun ⟨_, e, h⟩ => by cases e; exact ⟨rfl, rfl, rfl, h⟩, fun ⟨e, e', e'', h⟩ => ⟨_, by rw [e, e', e''], h⟩⟩
attribute [go_sem] ex_box ex_row1 ex_row2 exists_and_left and_assoc exists_eq'
section
variable {P : Program} {N k : Nat} {T : Tm} {σ : List Ob} {Q : Ex → Tm → List Ob → Prop} {K : Tm → List Ob → Prop}
theorem thenQ_n (h : K T σ) : thenQ K Q .normal T σ := h
theorem thenQ_r (h : Q .ret T σ) : thenQ K Q .ret T σ := h
theorem thenQ_e {i : Nat} (h : Q (.exit i) T σ) : thenQ K Q (.exit i) T σ := h
theorem blockQ_n {i : Nat} (h : Q .normal T σ) : blockQ i Q .normal T σ := h
theorem blockQ_r {i : Nat} (h : Q .ret T σ) : blockQ i Q .ret T σ := h
theorem blockQ_e {i : Nat} (h : Q .normal T σ) : blockQ i Q (.exit i) T σ := by simp only [blockQ, if_true]; exact h
theorem blockQ_o {i j : Nat} (hij : j ≠ i) (h : Q (.exit j) T σ) : blockQ i Q (.exit j) T σ := by simp only [blockQ, if_neg hij]; exact h
theorem AW.seq' {x y : Code} (h : AW P N k x (thenQ (AW P N k y Q) Q) T σ) : AW P N k (.seq x y) Q T σ :=
  AW.seq fun K hK => AW.mono h fun e T σ q => by cases e <;> first | exact hK _ _ q | exact q
def RetQ (P : Program) (n : Nat) (rs : List ResultVar) (R : V → List Ob → Prop) : Ex → Tm → List Ob → Prop
  | .exit _, _, _ => False
  | _, T, σ => ∃ xs m, resV P σ T rs = some xs ∧ n ≤ m ∧ obsLt m (σ.take m) = true ∧ (fz σ m (one1 xs)).lt m = true ∧ R (fz σ m (one1 xs)) (σ.take m)
theorem AC.walk {f : FuncId} {fn : Func} {c : Code} {args : List V} {R : V → List Ob → Prop} (hf : P.funcs[f]? = some fn) (hb : fn.body = some c) (hname : fn.name ≠ "runtime.NumGoroutine") (hN : args.length ≤ fn.ntmps)
    (h : AW P fn.ntmps σ.length c (RetQ P σ.length fn.results.toList R) (ent 0 args) σ) : AC P f args σ R :=
  AC.intro hf hb hname hN (AW.mono h fun e T σ q => by cases e <;> first | exact q.elim | exact ⟨trivial, q⟩)
theorem RetQ.r {n : Nat} {rs : List ResultVar} {R : V → List Ob → Prop} (m : Nat) {xs : List V} (h1 : resV P σ T rs = some xs) (h2 : n ≤ m) (h3 : obsLt m (σ.take m) = true) (h4 : (fz σ m (one1 xs)).lt m = true) (h5 : R (fz σ m (one1 xs)) (σ.take m)) :
    RetQ P n rs R .ret T σ := ⟨xs, m, h1, h2, h3, h4, h5⟩
theorem RetQ.n {n : Nat} {rs : List ResultVar} {R : V → List Ob → Prop} (m : Nat) {xs : List V} (h1 : resV P σ T rs = some xs) (h2 : n ≤ m) (h3 : obsLt m (σ.take m) = true) (h4 : (fz σ m (one1 xs)).lt m = true) (h5 : R (fz σ m (one1 xs)) (σ.take m)) :
    RetQ P n rs R .normal T σ := ⟨xs, m, h1, h2, h3, h4, h5⟩
theorem AW.rounds {X : Type} {c : Code} (ts : List Nat) (Tf : X → Tm) (σf : X → List Ob) (Pf : X → Prop) (μf : X → Nat) (x0 : X) (h0 : Pf x0) (hT : keepT T ts = Tf x0) (hσ : σ.take (σf x0).length = σf x0)
    (hk : ∀ x, Pf x → k ≤ (σf x).length) (ho : ∀ x, Pf x → obsLt (σf x).length (σf x) = true) (ht : ∀ x, Pf x → tLt (σf x).length (Tf x) = true)
    (round : ∀ x, Pf x → ∀ J : Tm → List Ob → Prop, (∀ x' T' σ', μf x' < μf x → Pf x' → keepT T' ts = Tf x' → σ'.take (σf x').length = σf x' → J T' σ') → AW P N k c (thenQ J Q) (Tf x) (σf x)) : AW P N k (.loop c) Q T σ := by
  refine AW.loop (fun n T σ => ∃ x, μf x = n ∧ Pf x ∧ keepT T ts = Tf x ∧ σ.take (σf x).length = σf x) (μf x0) ⟨x0, rfl, h0, hT, hσ⟩ ?_
  rintro n T σ ⟨x, rfl, hp, hT, hσ⟩ J hJ
  refine AW.forget ts (σf x).length (hk x hp) (by rw [hσ]; exact ho x hp) (by rw [hT]; exact ht x hp) ?_
  rw [hT, hσ]
  exact round x hp J fun x' T' σ' h1 h2 h3 h4 => hJ (μf x') T' σ' h1 ⟨x', rfl, h2, h3, h4⟩
end
end Go.AW
namespace Go.AW
open Go
section
variable {P : Program} {N k : Nat} {T : Tm} {σ : List Ob}
theorem AOp.cS {T' : Tm} {R Qs : V → List Ob → Prop} {f : FuncId} {fv : Operand} {args : Array Operand} {ts : Array TypeId} {ty : TypeId} {pos : String} {af : Array Edge} {gd : Option (Nat × Bool)} {dst : Option Tmp} {fi ca ag : List V}
    (hT : ∀ x ∈ (Op.call { callee := .value fv, args := args, argTypes := ts }).operands, ev T x = ev T' x) (hf : ev T fv = .f (.func f) fi ca) (hc : AC P f ag σ Qs) (has : nzs (fi ++ args.toList.map (ev T) ++ ca) = ag)
    (h : ∀ y obs, Qs y obs → R y obs) : AOp P N k ⟨dst, .call { callee := .value fv, args := args, argTypes := ts }, ty, pos, af, gd⟩ T' σ R := by
  have e : args.toList.map (ev T) = args.toList.map (ev T') := List.map_congr_left fun x hx => hT x (by simp [Op.operands, Call.operands]; exact .inr (by simpa using hx))
  refine AOp.call (by rw [← hT fv (by simp [Op.operands, Call.operands])]; exact hf) ?_
  rw [← e, has]
  exact hc.mono h
end
end Go.AW
