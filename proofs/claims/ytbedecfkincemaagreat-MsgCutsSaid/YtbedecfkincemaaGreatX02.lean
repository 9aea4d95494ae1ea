/-
  The types of the program, as far as its functions look at them: shapes, places, zero cells.
-/
import Derived.Test.YtbedecfkincemaaGreatX01
import Derived.Test.YtbedecfkincemaaGreatProg
import Derived.KernelRfl
namespace Go.AW
open Go Go.Proofs

theorem T.mixed : Tryz.prog.follows .mixedOrders = true := by kernel_rfl
@[go_sem] theorem T.arrS_332 : arrS Tryz.prog 332 = some 256 := by kernel_rfl
@[go_sem] theorem T.arrS_353 : arrS Tryz.prog 353 = some 8 := by kernel_rfl
@[go_sem] theorem T.arrT_332 : arrT Tryz.prog 332 = some (256, 1) := by kernel_rfl
@[go_sem] theorem T.arrT_353 : arrT Tryz.prog 353 = some (8, 1) := by kernel_rfl
@[go_sem] theorem T.eqT_54 : eqT Tryz.prog 54 = some [.i, .i, .s] := by kernel_rfl
@[go_sem] theorem T.eqT_74 : eqT Tryz.prog 74 = some [.s, .i, .i] := by kernel_rfl
@[go_sem] theorem T.eqT_165 : eqT Tryz.prog 165 = some [.s, .i] := by kernel_rfl
@[go_sem] theorem T.eqT_219 : eqT Tryz.prog 219 = some [.s, .s] := by kernel_rfl
@[go_sem] theorem T.eqT_221 : eqT Tryz.prog 221 = some [.s, .s] := by kernel_rfl
@[go_sem] theorem T.eqT_223 : eqT Tryz.prog 223 = some [.i, .s] := by kernel_rfl
@[go_sem] theorem T.fldOff_26_0 : fldOff Tryz.prog 26 0 = some 0 := by kernel_rfl
@[go_sem] theorem T.fldOff_26_1 : fldOff Tryz.prog 26 1 = some 1 := by kernel_rfl
@[go_sem] theorem T.fldOff_29_0 : fldOff Tryz.prog 29 0 = some 0 := by kernel_rfl
@[go_sem] theorem T.fldOff_29_1 : fldOff Tryz.prog 29 1 = some 1 := by kernel_rfl
@[go_sem] theorem T.fldOff_35_0 : fldOff Tryz.prog 35 0 = some 0 := by kernel_rfl
@[go_sem] theorem T.fldOff_35_1 : fldOff Tryz.prog 35 1 = some 1 := by kernel_rfl
@[go_sem] theorem T.fldOff_35_2 : fldOff Tryz.prog 35 2 = some 2 := by kernel_rfl
@[go_sem] theorem T.fldOff_35_3 : fldOff Tryz.prog 35 3 = some 3 := by kernel_rfl
@[go_sem] theorem T.fldOff_38_0 : fldOff Tryz.prog 38 0 = some 0 := by kernel_rfl
@[go_sem] theorem T.fldOff_38_1 : fldOff Tryz.prog 38 1 = some 1 := by kernel_rfl
@[go_sem] theorem T.fldOff_38_2 : fldOff Tryz.prog 38 2 = some 2 := by kernel_rfl
@[go_sem] theorem T.fldOff_38_3 : fldOff Tryz.prog 38 3 = some 3 := by kernel_rfl
@[go_sem] theorem T.fldOff_38_4 : fldOff Tryz.prog 38 4 = some 4 := by kernel_rfl
@[go_sem] theorem T.fldOff_38_5 : fldOff Tryz.prog 38 5 = some 6 := by kernel_rfl
@[go_sem] theorem T.fldOff_38_6 : fldOff Tryz.prog 38 6 = some 8 := by kernel_rfl
@[go_sem] theorem T.fldOff_38_7 : fldOff Tryz.prog 38 7 = some 9 := by kernel_rfl
@[go_sem] theorem T.fldOff_38_8 : fldOff Tryz.prog 38 8 = some 10 := by kernel_rfl
@[go_sem] theorem T.fldOff_38_9 : fldOff Tryz.prog 38 9 = some 11 := by kernel_rfl
@[go_sem] theorem T.fldOff_38_10 : fldOff Tryz.prog 38 10 = some 12 := by kernel_rfl
@[go_sem] theorem T.fldOff_38_11 : fldOff Tryz.prog 38 11 = some 13 := by kernel_rfl
@[go_sem] theorem T.fldOff_38_12 : fldOff Tryz.prog 38 12 = some 17 := by kernel_rfl
@[go_sem] theorem T.fldOff_38_13 : fldOff Tryz.prog 38 13 = some 18 := by kernel_rfl
@[go_sem] theorem T.fldOff_38_14 : fldOff Tryz.prog 38 14 = some 19 := by kernel_rfl
@[go_sem] theorem T.fldOff_54_0 : fldOff Tryz.prog 54 0 = some 0 := by kernel_rfl
@[go_sem] theorem T.fldOff_54_1 : fldOff Tryz.prog 54 1 = some 1 := by kernel_rfl
@[go_sem] theorem T.fldOff_54_2 : fldOff Tryz.prog 54 2 = some 2 := by kernel_rfl
@[go_sem] theorem T.fldOff_74_0 : fldOff Tryz.prog 74 0 = some 0 := by kernel_rfl
@[go_sem] theorem T.fldOff_74_1 : fldOff Tryz.prog 74 1 = some 1 := by kernel_rfl
@[go_sem] theorem T.fldOff_74_2 : fldOff Tryz.prog 74 2 = some 2 := by kernel_rfl
@[go_sem] theorem T.fldOff_111_0 : fldOff Tryz.prog 111 0 = some 0 := by kernel_rfl
@[go_sem] theorem T.fldOff_111_1 : fldOff Tryz.prog 111 1 = some 1 := by kernel_rfl
@[go_sem] theorem T.fldOff_111_2 : fldOff Tryz.prog 111 2 = some 2 := by kernel_rfl
@[go_sem] theorem T.fldOff_111_3 : fldOff Tryz.prog 111 3 = some 3 := by kernel_rfl
@[go_sem] theorem T.fldOff_116_0 : fldOff Tryz.prog 116 0 = some 0 := by kernel_rfl
@[go_sem] theorem T.fldOff_116_1 : fldOff Tryz.prog 116 1 = some 1 := by kernel_rfl
@[go_sem] theorem T.fldOff_116_2 : fldOff Tryz.prog 116 2 = some 2 := by kernel_rfl
@[go_sem] theorem T.fldOff_165_0 : fldOff Tryz.prog 165 0 = some 0 := by kernel_rfl
@[go_sem] theorem T.fldOff_165_1 : fldOff Tryz.prog 165 1 = some 1 := by kernel_rfl
@[go_sem] theorem T.fldOff_167_0 : fldOff Tryz.prog 167 0 = some 0 := by kernel_rfl
@[go_sem] theorem T.fldOff_167_1 : fldOff Tryz.prog 167 1 = some 1 := by kernel_rfl
@[go_sem] theorem T.fldOff_167_2 : fldOff Tryz.prog 167 2 = some 2 := by kernel_rfl
@[go_sem] theorem T.fldOff_169_0 : fldOff Tryz.prog 169 0 = some 0 := by kernel_rfl
@[go_sem] theorem T.fldOff_169_1 : fldOff Tryz.prog 169 1 = some 4 := by kernel_rfl
@[go_sem] theorem T.fldOff_169_2 : fldOff Tryz.prog 169 2 = some 5 := by kernel_rfl
@[go_sem] theorem T.fldOff_169_3 : fldOff Tryz.prog 169 3 = some 6 := by kernel_rfl
@[go_sem] theorem T.fldOff_184_0 : fldOff Tryz.prog 184 0 = some 0 := by kernel_rfl
@[go_sem] theorem T.fldOff_184_1 : fldOff Tryz.prog 184 1 = some 1 := by kernel_rfl
@[go_sem] theorem T.fldOff_209_0 : fldOff Tryz.prog 209 0 = some 0 := by kernel_rfl
@[go_sem] theorem T.fldOff_209_1 : fldOff Tryz.prog 209 1 = some 1 := by kernel_rfl
@[go_sem] theorem T.fldOff_209_2 : fldOff Tryz.prog 209 2 = some 2 := by kernel_rfl
@[go_sem] theorem T.fldOff_212_0 : fldOff Tryz.prog 212 0 = some 0 := by kernel_rfl
@[go_sem] theorem T.fldOff_212_1 : fldOff Tryz.prog 212 1 = some 1 := by kernel_rfl
@[go_sem] theorem T.fldOff_212_2 : fldOff Tryz.prog 212 2 = some 2 := by kernel_rfl
@[go_sem] theorem T.fldOff_215_0 : fldOff Tryz.prog 215 0 = some 0 := by kernel_rfl
@[go_sem] theorem T.fldOff_215_1 : fldOff Tryz.prog 215 1 = some 1 := by kernel_rfl
@[go_sem] theorem T.fldOff_215_2 : fldOff Tryz.prog 215 2 = some 2 := by kernel_rfl
@[go_sem] theorem T.fldOff_219_0 : fldOff Tryz.prog 219 0 = some 0 := by kernel_rfl
@[go_sem] theorem T.fldOff_219_1 : fldOff Tryz.prog 219 1 = some 1 := by kernel_rfl
@[go_sem] theorem T.fldOff_221_0 : fldOff Tryz.prog 221 0 = some 0 := by kernel_rfl
@[go_sem] theorem T.fldOff_221_1 : fldOff Tryz.prog 221 1 = some 1 := by kernel_rfl
@[go_sem] theorem T.fldOff_223_0 : fldOff Tryz.prog 223 0 = some 0 := by kernel_rfl
@[go_sem] theorem T.fldOff_223_1 : fldOff Tryz.prog 223 1 = some 1 := by kernel_rfl
@[go_sem] theorem T.fldOff_226_0 : fldOff Tryz.prog 226 0 = some 0 := by kernel_rfl
@[go_sem] theorem T.fldOff_226_1 : fldOff Tryz.prog 226 1 = some 1 := by kernel_rfl
@[go_sem] theorem T.fldOff_226_2 : fldOff Tryz.prog 226 2 = some 2 := by kernel_rfl
@[go_sem] theorem T.fldOff_226_3 : fldOff Tryz.prog 226 3 = some 3 := by kernel_rfl
@[go_sem] theorem T.fldOff_238_0 : fldOff Tryz.prog 238 0 = some 0 := by kernel_rfl
@[go_sem] theorem T.fldOff_238_1 : fldOff Tryz.prog 238 1 = some 1 := by kernel_rfl
@[go_sem] theorem T.fldOff_238_2 : fldOff Tryz.prog 238 2 = some 2 := by kernel_rfl
@[go_sem] theorem T.fldOff_267_0 : fldOff Tryz.prog 267 0 = some 0 := by kernel_rfl
@[go_sem] theorem T.fldOff_276_0 : fldOff Tryz.prog 276 0 = some 0 := by kernel_rfl
@[go_sem] theorem T.fldOff_276_1 : fldOff Tryz.prog 276 1 = some 1 := by kernel_rfl
@[go_sem] theorem T.fldOff_325_1 : fldOff Tryz.prog 325 1 = some 0 := by kernel_rfl
@[go_sem] theorem T.fldOff_327_0 : fldOff Tryz.prog 327 0 = some 0 := by kernel_rfl
@[go_sem] theorem T.fldOff_327_1 : fldOff Tryz.prog 327 1 = some 1 := by kernel_rfl
@[go_sem] theorem T.fldOff_329_1 : fldOff Tryz.prog 329 1 = some 0 := by kernel_rfl
@[go_sem] theorem T.fldOff_331_1 : fldOff Tryz.prog 331 1 = some 0 := by kernel_rfl
@[go_sem] theorem T.fldOff_331_2 : fldOff Tryz.prog 331 2 = some 1 := by kernel_rfl
@[go_sem] theorem T.fldOff_334_0 : fldOff Tryz.prog 334 0 = some 0 := by kernel_rfl
@[go_sem] theorem T.fldOff_334_1 : fldOff Tryz.prog 334 1 = some 3 := by kernel_rfl
@[go_sem] theorem T.fldOff_334_2 : fldOff Tryz.prog 334 2 = some 4 := by kernel_rfl
@[go_sem] theorem T.intT_3 : intT Tryz.prog 3 = some .i64 := by kernel_rfl
@[go_sem] theorem T.intT_5 : intT Tryz.prog 5 = some .u8 := by kernel_rfl
@[go_sem] theorem T.intT_23 : intT Tryz.prog 23 = some .u64 := by kernel_rfl
@[go_sem] theorem T.intT_206 : intT Tryz.prog 206 = some .u32 := by kernel_rfl
@[go_sem] theorem T.isB_4 : isB Tryz.prog 4 = true := by kernel_rfl
@[go_sem] theorem T.isK_3 : isK Tryz.prog 3 = true := by kernel_rfl
@[go_sem] theorem T.isK_5 : isK Tryz.prog 5 = true := by kernel_rfl
@[go_sem] theorem T.isK_23 : isK Tryz.prog 23 = true := by kernel_rfl
@[go_sem] theorem T.isK_63 : isK Tryz.prog 63 = true := by kernel_rfl
@[go_sem] theorem T.isK_206 : isK Tryz.prog 206 = true := by kernel_rfl
@[go_sem] theorem T.isK_274 : isK Tryz.prog 274 = true := by kernel_rfl
@[go_sem] theorem T.isK_355 : isK Tryz.prog 355 = true := by kernel_rfl
@[go_sem] theorem T.isK_380 : isK Tryz.prog 380 = true := by kernel_rfl
@[go_sem] theorem T.isP_103 : isP Tryz.prog 103 = true := by kernel_rfl
@[go_sem] theorem T.isP_138 : isP Tryz.prog 138 = true := by kernel_rfl
@[go_sem] theorem T.isP_199 : isP Tryz.prog 199 = true := by kernel_rfl
@[go_sem] theorem T.isP_264 : isP Tryz.prog 264 = true := by kernel_rfl
@[go_sem] theorem T.isP_274 : isP Tryz.prog 274 = true := by kernel_rfl
@[go_sem] theorem T.isS_9 : isS Tryz.prog 9 = true := by kernel_rfl
@[go_sem] theorem T.plc_26 : plc Tryz.prog 26 = some ([.string ⟨#[]⟩, .slice none 0 0], [(0, 1), (1, 1)]) := by kernel_rfl
@[go_sem] theorem T.plc_29 : plc Tryz.prog 29 = some ([.string ⟨#[]⟩, .slice none 0 0], [(0, 1), (1, 1)]) := by kernel_rfl
@[go_sem] theorem T.plc_35 : plc Tryz.prog 35 = some ([.string ⟨#[]⟩, .bool false, .slice none 0 0, .slice none 0 0], [(0, 1), (1, 1), (2, 1), (3, 1)]) := by kernel_rfl
@[go_sem] theorem T.plc_38 : plc Tryz.prog 38 = some ([.int .u8 0, .int .u64 0, .string ⟨#[]⟩, .bool false, .string ⟨#[]⟩, .slice none 0 0, .string ⟨#[]⟩, .slice none 0 0, .slice none 0 0, .slice none 0 0, .bool false, .string ⟨#[]⟩, .string ⟨#[]⟩, .string ⟨#[]⟩, .bool false, .slice none 0 0, .slice none 0 0, .slice none 0 0, .int .i64 0, .string ⟨#[]⟩], [(0, 1), (1, 1), (2, 1), (3, 1), (4, 2), (6, 2), (8, 1), (9, 1), (10, 1), (11, 1), (12, 1), (13, 4), (17, 1), (18, 1), (19, 1)]) := by kernel_rfl
@[go_sem] theorem T.plc_54 : plc Tryz.prog 54 = some ([.int .u8 0, .int .u8 0, .string ⟨#[]⟩], [(0, 1), (1, 1), (2, 1)]) := by kernel_rfl
@[go_sem] theorem T.plc_74 : plc Tryz.prog 74 = some ([.string ⟨#[]⟩, .int .i64 0, .int .i64 0], [(0, 1), (1, 1), (2, 1)]) := by kernel_rfl
@[go_sem] theorem T.plc_111 : plc Tryz.prog 111 = some ([.nilFunc, .nilFunc, .nilFunc, .nilFunc], [(0, 1), (1, 1), (2, 1), (3, 1)]) := by kernel_rfl
@[go_sem] theorem T.plc_116 : plc Tryz.prog 116 = some ([.string ⟨#[]⟩, .int .i64 0, .int .i64 0], [(0, 1), (1, 1), (2, 1)]) := by kernel_rfl
@[go_sem] theorem T.plc_165 : plc Tryz.prog 165 = some ([.string ⟨#[]⟩, .int .u64 0], [(0, 1), (1, 1)]) := by kernel_rfl
@[go_sem] theorem T.plc_167 : plc Tryz.prog 167 = some ([.slice none 0 0, .bool false, .string ⟨#[]⟩, .int .u64 0], [(0, 1), (1, 1), (2, 2)]) := by kernel_rfl
@[go_sem] theorem T.plc_169 : plc Tryz.prog 169 = some ([.slice none 0 0, .bool false, .string ⟨#[]⟩, .int .u64 0, .slice none 0 0, .bool false, .string ⟨#[]⟩], [(0, 4), (4, 1), (5, 1), (6, 1)]) := by kernel_rfl
@[go_sem] theorem T.plc_184 : plc Tryz.prog 184 = some ([.string ⟨#[]⟩, .nilFunc], [(0, 1), (1, 1)]) := by kernel_rfl
@[go_sem] theorem T.plc_209 : plc Tryz.prog 209 = some ([.string ⟨#[]⟩, .int .i64 0, .int .i64 0], [(0, 1), (1, 1), (2, 1)]) := by kernel_rfl
@[go_sem] theorem T.plc_212 : plc Tryz.prog 212 = some ([.string ⟨#[]⟩, .int .i64 0, .int .i64 0], [(0, 1), (1, 1), (2, 1)]) := by kernel_rfl
@[go_sem] theorem T.plc_215 : plc Tryz.prog 215 = some ([.slice none 0 0, .bool false, .string ⟨#[]⟩], [(0, 1), (1, 1), (2, 1)]) := by kernel_rfl
@[go_sem] theorem T.plc_219 : plc Tryz.prog 219 = some ([.string ⟨#[]⟩, .string ⟨#[]⟩], [(0, 1), (1, 1)]) := by kernel_rfl
@[go_sem] theorem T.plc_221 : plc Tryz.prog 221 = some ([.string ⟨#[]⟩, .string ⟨#[]⟩], [(0, 1), (1, 1)]) := by kernel_rfl
@[go_sem] theorem T.plc_223 : plc Tryz.prog 223 = some ([.int .u8 0, .string ⟨#[]⟩], [(0, 1), (1, 1)]) := by kernel_rfl
@[go_sem] theorem T.plc_238 : plc Tryz.prog 238 = some ([.slice none 0 0, .int .i64 0, .int .i64 0], [(0, 1), (1, 1), (2, 1)]) := by kernel_rfl
@[go_sem] theorem T.plc_267 : plc Tryz.prog 267 = some ([.pointer none], [(0, 1)]) := by kernel_rfl
@[go_sem] theorem T.plc_334 : plc Tryz.prog 334 = some ([.int .u32 0, .int .i32 0, .int .u32 0, .int .u32 0, .int .u32 0, .int .u32 0, .int .u32 0, .int .u32 0, .int .u32 0, .int .u32 0, .int .u32 0, .int .u32 0, .int .u32 0, .int .u32 0, .int .u32 0, .int .u32 0, .int .u32 0, .int .u32 0, .int .u32 0, .int .u32 0, .int .u32 0, .int .u32 0, .int .u32 0, .int .u32 0, .int .u32 0, .int .u32 0, .int .u32 0, .int .u32 0, .int .u32 0, .int .u32 0, .int .u32 0, .int .u32 0, .int .u32 0, .int .u32 0, .int .u32 0, .int .u32 0, .int .u32 0, .int .u32 0, .int .u32 0, .int .u32 0, .int .u32 0, .int .u32 0, .int .u32 0, .int .u32 0, .int .u32 0, .int .u32 0, .int .u32 0, .int .u32 0, .int .u32 0, .int .u32 0, .int .u32 0, .int .u32 0, .int .u32 0, .int .u32 0, .int .u32 0, .int .u32 0, .int .u32 0, .int .u32 0, .int .u32 0, .int .u32 0, .int .u32 0, .int .u32 0, .int .u32 0, .int .u32 0, .int .u32 0, .int .u32 0, .int .u32 0, .int .u32 0, .int .u32 0, .int .u32 0, .int .u32 0, .int .u32 0, .int .u32 0, .int .u32 0, .int .u32 0, .int .u32 0, .int .u32 0, .int .u32 0, .int .u32 0, .int .u32 0, .int .u32 0, .int .u32 0, .int .u32 0, .int .u32 0, .int .u32 0, .int .u32 0, .int .u32 0, .int .u32 0, .int .u32 0, .int .u32 0, .int .u32 0, .int .u32 0, .int .u32 0, .int .u32 0, .int .u32 0, .int .u32 0, .int .u32 0, .int .u32 0, .int .u32 0, .int .u32 0, .int .u32 0, .int .u32 0, .int .u32 0, .int .u32 0, .int .u32 0, .int .u32 0, .int .u32 0, .int .u32 0, .int .u32 0, .int .u32 0, .int .u32 0, .int .u32 0, .int .u32 0, .int .u32 0, .int .u32 0, .int .u32 0, .int .u32 0, .int .u32 0, .int .u32 0, .int .u32 0, .int .u32 0, .int .u32 0, .int .u32 0, .int .u32 0, .int .u32 0, .int .u32 0, .int .u32 0, .int .u32 0, .int .u32 0, .int .u32 0, .int .u32 0, .int .u32 0, .int .u32 0, .int .u32 0, .int .u32 0, .int .u32 0, .int .u32 0, .int .u32 0, .int .u32 0, .int .u32 0, .int .u32 0, .int .u32 0, .int .u32 0, .int .u32 0, .int .u32 0, .int .u32 0, .int .u32 0, .int .u32 0, .int .u32 0, .int .u32 0, .int .u32 0, .int .u32 0, .int .u32 0, .int .u32 0, .int .u32 0, .int .u32 0, .int .u32 0, .int .u32 0, .int .u32 0, .int .u32 0, .int .u32 0, .int .u32 0, .int .u32 0, .int .u32 0, .int .u32 0, .int .u32 0, .int .u32 0, .int .u32 0, .int .u32 0, .int .u32 0, .int .u32 0, .int .u32 0, .int .u32 0, .int .u32 0, .int .u32 0, .int .u32 0, .int .u32 0, .int .u32 0, .int .u32 0, .int .u32 0, .int .u32 0, .int .u32 0, .int .u32 0, .int .u32 0, .int .u32 0, .int .u32 0, .int .u32 0, .int .u32 0, .int .u32 0, .int .u32 0, .int .u32 0, .int .u32 0, .int .u32 0, .int .u32 0, .int .u32 0, .int .u32 0, .int .u32 0, .int .u32 0, .int .u32 0, .int .u32 0, .int .u32 0, .int .u32 0, .int .u32 0, .int .u32 0, .int .u32 0, .int .u32 0, .int .u32 0, .int .u32 0, .int .u32 0, .int .u32 0, .int .u32 0, .int .u32 0, .int .u32 0, .int .u32 0, .int .u32 0, .int .u32 0, .int .u32 0, .int .u32 0, .int .u32 0, .int .u32 0, .int .u32 0, .int .u32 0, .int .u32 0, .int .u32 0, .int .u32 0, .int .u32 0, .int .u32 0, .int .u32 0, .int .u32 0, .int .u32 0, .int .u32 0, .int .u32 0, .int .u32 0, .int .u32 0, .int .u32 0, .int .u32 0, .int .u32 0, .int .u32 0, .int .u32 0, .int .u32 0, .int .u32 0, .int .u32 0, .int .u32 0, .int .u32 0, .int .u32 0, .int .u32 0, .int .u32 0, .int .u32 0, .int .u32 0, .int .u32 0, .int .u32 0, .int .u32 0, .int .u32 0, .int .u32 0, .int .u32 0, .int .u32 0, .int .u32 0, .int .u32 0, .int .u32 0, .int .u32 0], [(0, 3), (3, 1), (4, 256)]) := by kernel_rfl
@[go_sem] theorem T.shp_3 : shp Tryz.prog 3 = some none := by kernel_rfl
@[go_sem] theorem T.shp_4 : shp Tryz.prog 4 = some none := by kernel_rfl
@[go_sem] theorem T.shp_5 : shp Tryz.prog 5 = some none := by kernel_rfl
@[go_sem] theorem T.shp_9 : shp Tryz.prog 9 = some none := by kernel_rfl
@[go_sem] theorem T.shp_21 : shp Tryz.prog 21 = some none := by kernel_rfl
@[go_sem] theorem T.shp_23 : shp Tryz.prog 23 = some none := by kernel_rfl
@[go_sem] theorem T.shp_24 : shp Tryz.prog 24 = some none := by kernel_rfl
@[go_sem] theorem T.shp_26 : shp Tryz.prog 26 = some (some 2) := by kernel_rfl
@[go_sem] theorem T.shp_27 : shp Tryz.prog 27 = some none := by kernel_rfl
@[go_sem] theorem T.shp_29 : shp Tryz.prog 29 = some (some 2) := by kernel_rfl
@[go_sem] theorem T.shp_30 : shp Tryz.prog 30 = some none := by kernel_rfl
@[go_sem] theorem T.shp_31 : shp Tryz.prog 31 = some none := by kernel_rfl
@[go_sem] theorem T.shp_32 : shp Tryz.prog 32 = some none := by kernel_rfl
@[go_sem] theorem T.shp_33 : shp Tryz.prog 33 = some none := by kernel_rfl
@[go_sem] theorem T.shp_35 : shp Tryz.prog 35 = some (some 4) := by kernel_rfl
@[go_sem] theorem T.shp_36 : shp Tryz.prog 36 = some none := by kernel_rfl
@[go_sem] theorem T.shp_38 : shp Tryz.prog 38 = some (some 20) := by kernel_rfl
@[go_sem] theorem T.shp_39 : shp Tryz.prog 39 = some none := by kernel_rfl
@[go_sem] theorem T.shp_54 : shp Tryz.prog 54 = some (some 3) := by kernel_rfl
@[go_sem] theorem T.shp_63 : shp Tryz.prog 63 = some none := by kernel_rfl
@[go_sem] theorem T.shp_74 : shp Tryz.prog 74 = some (some 3) := by kernel_rfl
@[go_sem] theorem T.shp_106 : shp Tryz.prog 106 = some none := by kernel_rfl
@[go_sem] theorem T.shp_107 : shp Tryz.prog 107 = some none := by kernel_rfl
@[go_sem] theorem T.shp_108 : shp Tryz.prog 108 = some none := by kernel_rfl
@[go_sem] theorem T.shp_109 : shp Tryz.prog 109 = some none := by kernel_rfl
@[go_sem] theorem T.shp_111 : shp Tryz.prog 111 = some (some 4) := by kernel_rfl
@[go_sem] theorem T.shp_165 : shp Tryz.prog 165 = some (some 2) := by kernel_rfl
@[go_sem] theorem T.shp_167 : shp Tryz.prog 167 = some (some 4) := by kernel_rfl
@[go_sem] theorem T.shp_169 : shp Tryz.prog 169 = some (some 7) := by kernel_rfl
@[go_sem] theorem T.shp_182 : shp Tryz.prog 182 = some none := by kernel_rfl
@[go_sem] theorem T.shp_184 : shp Tryz.prog 184 = some (some 2) := by kernel_rfl
@[go_sem] theorem T.shp_187 : shp Tryz.prog 187 = some none := by kernel_rfl
@[go_sem] theorem T.shp_206 : shp Tryz.prog 206 = some none := by kernel_rfl
@[go_sem] theorem T.shp_215 : shp Tryz.prog 215 = some (some 3) := by kernel_rfl
@[go_sem] theorem T.shp_219 : shp Tryz.prog 219 = some (some 2) := by kernel_rfl
@[go_sem] theorem T.shp_221 : shp Tryz.prog 221 = some (some 2) := by kernel_rfl
@[go_sem] theorem T.shp_223 : shp Tryz.prog 223 = some (some 2) := by kernel_rfl
@[go_sem] theorem T.shp_224 : shp Tryz.prog 224 = some none := by kernel_rfl
@[go_sem] theorem T.shp_226 : shp Tryz.prog 226 = some (some 4) := by kernel_rfl
@[go_sem] theorem T.shp_231 : shp Tryz.prog 231 = some none := by kernel_rfl
@[go_sem] theorem T.shp_234 : shp Tryz.prog 234 = some none := by kernel_rfl
@[go_sem] theorem T.shp_264 : shp Tryz.prog 264 = some none := by kernel_rfl
@[go_sem] theorem T.shp_274 : shp Tryz.prog 274 = some none := by kernel_rfl
@[go_sem] theorem T.shp_353 : shp Tryz.prog 353 = some (some 8) := by kernel_rfl
@[go_sem] theorem T.sliT_24 : sliT Tryz.prog 24 = some (169, 7, 104) := by kernel_rfl
@[go_sem] theorem T.sliT_27 : sliT Tryz.prog 27 = some (215, 3, 48) := by kernel_rfl
@[go_sem] theorem T.sliT_30 : sliT Tryz.prog 30 = some (165, 2, 24) := by kernel_rfl
@[go_sem] theorem T.sliT_31 : sliT Tryz.prog 31 = some (219, 2, 32) := by kernel_rfl
@[go_sem] theorem T.sliT_32 : sliT Tryz.prog 32 = some (223, 2, 24) := by kernel_rfl
@[go_sem] theorem T.sliT_33 : sliT Tryz.prog 33 = some (221, 2, 32) := by kernel_rfl
@[go_sem] theorem T.sliT_36 : sliT Tryz.prog 36 = some (226, 4, 56) := by kernel_rfl
@[go_sem] theorem T.sliT_63 : sliT Tryz.prog 63 = some (5, 1, 1) := by kernel_rfl
@[go_sem] theorem T.sliT_70 : sliT Tryz.prog 70 = some (74, 3, 32) := by kernel_rfl
@[go_sem] theorem T.sliT_71 : sliT Tryz.prog 71 = some (9, 1, 16) := by kernel_rfl
@[go_sem] theorem T.sliT_80 : sliT Tryz.prog 80 = some (38, 20, 328) := by kernel_rfl
@[go_sem] theorem T.sliT_81 : sliT Tryz.prog 81 = some (3, 1, 8) := by kernel_rfl
@[go_sem] theorem T.sliT_100 : sliT Tryz.prog 100 = some (111, 4, 32) := by kernel_rfl
@[go_sem] theorem T.sliT_181 : sliT Tryz.prog 181 = some (184, 2, 24) := by kernel_rfl
@[go_sem] theorem T.sliT_187 : sliT Tryz.prog 187 = some (54, 3, 24) := by kernel_rfl
@[go_sem] theorem T.sliT_224 : sliT Tryz.prog 224 = some (23, 1, 8) := by kernel_rfl
@[go_sem] theorem T.sliT_347 : sliT Tryz.prog 347 = some (30, 1, 24) := by kernel_rfl
@[go_sem] theorem T.sliT_369 : sliT Tryz.prog 369 = some (167, 4, 56) := by kernel_rfl
@[go_sem] theorem T.wid_3 : wid Tryz.prog 3 = some 1 := by kernel_rfl
@[go_sem] theorem T.wid_4 : wid Tryz.prog 4 = some 1 := by kernel_rfl
@[go_sem] theorem T.wid_5 : wid Tryz.prog 5 = some 1 := by kernel_rfl
@[go_sem] theorem T.wid_9 : wid Tryz.prog 9 = some 1 := by kernel_rfl
@[go_sem] theorem T.wid_23 : wid Tryz.prog 23 = some 1 := by kernel_rfl
@[go_sem] theorem T.wid_24 : wid Tryz.prog 24 = some 1 := by kernel_rfl
@[go_sem] theorem T.wid_26 : wid Tryz.prog 26 = some 2 := by kernel_rfl
@[go_sem] theorem T.wid_27 : wid Tryz.prog 27 = some 1 := by kernel_rfl
@[go_sem] theorem T.wid_29 : wid Tryz.prog 29 = some 2 := by kernel_rfl
@[go_sem] theorem T.wid_30 : wid Tryz.prog 30 = some 1 := by kernel_rfl
@[go_sem] theorem T.wid_31 : wid Tryz.prog 31 = some 1 := by kernel_rfl
@[go_sem] theorem T.wid_32 : wid Tryz.prog 32 = some 1 := by kernel_rfl
@[go_sem] theorem T.wid_33 : wid Tryz.prog 33 = some 1 := by kernel_rfl
@[go_sem] theorem T.wid_35 : wid Tryz.prog 35 = some 4 := by kernel_rfl
@[go_sem] theorem T.wid_36 : wid Tryz.prog 36 = some 1 := by kernel_rfl
@[go_sem] theorem T.wid_38 : wid Tryz.prog 38 = some 20 := by kernel_rfl
@[go_sem] theorem T.wid_39 : wid Tryz.prog 39 = some 1 := by kernel_rfl
@[go_sem] theorem T.wid_54 : wid Tryz.prog 54 = some 3 := by kernel_rfl
@[go_sem] theorem T.wid_63 : wid Tryz.prog 63 = some 1 := by kernel_rfl
@[go_sem] theorem T.wid_74 : wid Tryz.prog 74 = some 3 := by kernel_rfl
@[go_sem] theorem T.wid_111 : wid Tryz.prog 111 = some 4 := by kernel_rfl
@[go_sem] theorem T.wid_165 : wid Tryz.prog 165 = some 2 := by kernel_rfl
@[go_sem] theorem T.wid_167 : wid Tryz.prog 167 = some 4 := by kernel_rfl
@[go_sem] theorem T.wid_169 : wid Tryz.prog 169 = some 7 := by kernel_rfl
@[go_sem] theorem T.wid_184 : wid Tryz.prog 184 = some 2 := by kernel_rfl
@[go_sem] theorem T.wid_187 : wid Tryz.prog 187 = some 1 := by kernel_rfl
@[go_sem] theorem T.wid_206 : wid Tryz.prog 206 = some 1 := by kernel_rfl
@[go_sem] theorem T.wid_215 : wid Tryz.prog 215 = some 3 := by kernel_rfl
@[go_sem] theorem T.wid_219 : wid Tryz.prog 219 = some 2 := by kernel_rfl
@[go_sem] theorem T.wid_221 : wid Tryz.prog 221 = some 2 := by kernel_rfl
@[go_sem] theorem T.wid_223 : wid Tryz.prog 223 = some 2 := by kernel_rfl
@[go_sem] theorem T.wid_224 : wid Tryz.prog 224 = some 1 := by kernel_rfl
@[go_sem] theorem T.wid_226 : wid Tryz.prog 226 = some 4 := by kernel_rfl
@[go_sem] theorem T.wid_274 : wid Tryz.prog 274 = some 1 := by kernel_rfl
@[go_sem] theorem T.zr_3 : zr Tryz.prog 3 = some [.int .i64 0] := by kernel_rfl
@[go_sem] theorem T.zr_26 : zr Tryz.prog 26 = some [.string ⟨#[]⟩, .slice none 0 0] := by kernel_rfl
@[go_sem] theorem T.zr_29 : zr Tryz.prog 29 = some [.string ⟨#[]⟩, .slice none 0 0] := by kernel_rfl
@[go_sem] theorem T.zr_35 : zr Tryz.prog 35 = some [.string ⟨#[]⟩, .bool false, .slice none 0 0, .slice none 0 0] := by kernel_rfl
@[go_sem] theorem T.zr_38 : zr Tryz.prog 38 = some [.int .u8 0, .int .u64 0, .string ⟨#[]⟩, .bool false, .string ⟨#[]⟩, .slice none 0 0, .string ⟨#[]⟩, .slice none 0 0, .slice none 0 0, .slice none 0 0, .bool false, .string ⟨#[]⟩, .string ⟨#[]⟩, .string ⟨#[]⟩, .bool false, .slice none 0 0, .slice none 0 0, .slice none 0 0, .int .i64 0, .string ⟨#[]⟩] := by kernel_rfl
@[go_sem] theorem T.zr_54 : zr Tryz.prog 54 = some [.int .u8 0, .int .u8 0, .string ⟨#[]⟩] := by kernel_rfl
@[go_sem] theorem T.zr_74 : zr Tryz.prog 74 = some [.string ⟨#[]⟩, .int .i64 0, .int .i64 0] := by kernel_rfl
@[go_sem] theorem T.zr_111 : zr Tryz.prog 111 = some [.nilFunc, .nilFunc, .nilFunc, .nilFunc] := by kernel_rfl
@[go_sem] theorem T.zr_165 : zr Tryz.prog 165 = some [.string ⟨#[]⟩, .int .u64 0] := by kernel_rfl
@[go_sem] theorem T.zr_167 : zr Tryz.prog 167 = some [.slice none 0 0, .bool false, .string ⟨#[]⟩, .int .u64 0] := by kernel_rfl
@[go_sem] theorem T.zr_169 : zr Tryz.prog 169 = some [.slice none 0 0, .bool false, .string ⟨#[]⟩, .int .u64 0, .slice none 0 0, .bool false, .string ⟨#[]⟩] := by kernel_rfl
@[go_sem] theorem T.zr_184 : zr Tryz.prog 184 = some [.string ⟨#[]⟩, .nilFunc] := by kernel_rfl
@[go_sem] theorem T.zr_187 : zr Tryz.prog 187 = some [.slice none 0 0] := by kernel_rfl
@[go_sem] theorem T.zr_215 : zr Tryz.prog 215 = some [.slice none 0 0, .bool false, .string ⟨#[]⟩] := by kernel_rfl
@[go_sem] theorem T.zr_219 : zr Tryz.prog 219 = some [.string ⟨#[]⟩, .string ⟨#[]⟩] := by kernel_rfl
@[go_sem] theorem T.zr_221 : zr Tryz.prog 221 = some [.string ⟨#[]⟩, .string ⟨#[]⟩] := by kernel_rfl
@[go_sem] theorem T.zr_223 : zr Tryz.prog 223 = some [.int .u8 0, .string ⟨#[]⟩] := by kernel_rfl
@[go_sem] theorem T.zr_226 : zr Tryz.prog 226 = some [.string ⟨#[]⟩, .int .u64 0, .int .u8 0, .slice none 0 0] := by kernel_rfl
@[go_sem] theorem T.zr_276 : zr Tryz.prog 276 = some [.pointer none, .slice none 0 0] := by kernel_rfl
@[go_sem] theorem T.zr_353 : zr Tryz.prog 353 = some [.int .u8 0, .int .u8 0, .int .u8 0, .int .u8 0, .int .u8 0, .int .u8 0, .int .u8 0, .int .u8 0] := by kernel_rfl
end Go.AW
/-
  The calculus: what a walk computes with, and its end.
-/
namespace Go.AW
open Go

attribute [go_sem] decide_true decide_false eqV V.flat1 flats1 ao ev look cv bin ibin shf sbin eqn onB onI add rdx rdV rdD elems srcOf setAt flat ones V.one Value.oneCell' toDs onesD D.one put dstOk gv nzs nz rens V.ren Ob.ren mrg gm
  fz fzs lts V.lt Ob.lt obsLt tLt keepT resV one1 ent buildCells fillV thenQ blockQ cvd bV bT bC bO List.contains List.elem cond_true cond_false

attribute [go_sem] true_and and_true if_true if_false ite_true ite_false List.drop_zero List.head?_cons exists_eq_left' exists_eq_left exists_eq_right Option.some.injEq Prod.mk.injEq List.length_cons List.length_nil List.getElem?_cons_zero List.getElem?_cons_succ
  List.drop_succ_cons List.take_succ_cons List.take_zero List.map_cons List.map_nil List.nil_append List.cons_append List.append_nil List.set_cons_zero List.set_cons_succ Bool.not_true Bool.not_false Nat.add_zero Nat.zero_add
  Option.map_some Option.map_none forall_const false_and and_false false_or or_false true_or or_true not_true_eq_false not_false_eq_true Bool.true_and Bool.false_and Bool.and_true Bool.and_false bs_size bs_append bs_extract bs_data and_self List.size_toArray Int.toNat_natCast
  bind_pure_comp List.drop_nil List.take_nil List.set_nil Option.isSome_some Option.isSome_none List.getD_cons_zero List.getD_cons_succ Nat.mul_one Nat.one_mul Nat.mul_zero Nat.zero_mul

attribute [go_sem] Nat.reduceEqDiff reduceCtorEq Nat.reduceAdd Nat.reduceMul Int.reduceLE Int.reduceLT Int.reduceToNat Nat.reduceLeDiff Nat.reduceSub Int.reduceAdd Int.reduceMul Int.reduceSub Int.reduceNeg Int.reduceEq Nat.reduceDiv Nat.reduceMod Nat.reduceLT Nat.reduceGT
attribute [go_sem ↓] reduceIte

def bsD (l : List UInt8) : List D := l.map fun b => .s (.int .u8 b.toNat)
theorem strD_bs (l : List UInt8) : strD ⟨l.toArray⟩ = bsD l := rfl
theorem bsD_append (l m : List UInt8) : bsD l ++ bsD m = bsD (l ++ m) := by simp [bsD]
theorem bsD_length (l : List UInt8) : (bsD l).length = l.length := by simp [bsD]
theorem onesD_bsD (l : List UInt8) : onesD (bsD l) = true := by
  induction l with
  | nil => rfl
  | cons b l ih => simp only [bsD, List.map_cons, onesD, D.one, Bool.and_eq_true]; exact ⟨rfl, ih⟩
theorem bsD_nums (l : List UInt8) : bsD l = (l.map fun b => (b.toNat : Int)).map fun n => .s (.int .u8 n) := by simp [bsD]
theorem strOfNums_bs (l : List UInt8) : strOfNums (l.map fun b => (b.toNat : Int)) = ⟨l.toArray⟩ := by
  simp [strOfNums, Function.comp_def]
theorem strOfNums_one (n : Int) : strOfNums [n] = ⟨[UInt8.ofNat n.toNat].toArray⟩ := rfl
attribute [go_sem] strD_bs bsD_append bsD_length onesD_bsD strOfNums_bs


theorem wrap_i64 {n : Int} (h1 : -9223372036854775808 ≤ n) (h2 : n ≤ 9223372036854775807) : IntKind.wrap .i64 n = n := by
  simp only [IntKind.wrap, IntKind.bits, IntKind.signed]
  simp
  omega
theorem wrap_u64 {n : Int} (h1 : 0 ≤ n) (h2 : n ≤ 18446744073709551615) : IntKind.wrap .u64 n = n := by
  simp only [IntKind.wrap, IntKind.bits, IntKind.signed]
  simp
  omega
theorem wrap_u32 {n : Int} (h1 : 0 ≤ n) (h2 : n ≤ 4294967295) : IntKind.wrap .u32 n = n := by
  simp only [IntKind.wrap, IntKind.bits, IntKind.signed]
  simp
  omega
theorem wrap_u8 {n : Int} (h1 : 0 ≤ n) (h2 : n ≤ 255) : IntKind.wrap .u8 n = n := by
  simp only [IntKind.wrap, IntKind.bits, IntKind.signed]
  simp
  omega
theorem pick_and (b x : Bool) : (if b = true then bv x else bv false) = bv (b && x) := by cases b <;> rfl
theorem pick_or (b x : Bool) : (if b = true then bv true else bv x) = bv (b || x) := by cases b <;> rfl
attribute [go_sem] pick_and pick_or
theorem wrap_bi (b : UInt8) : IntKind.wrap .i64 (b.toNat : Int) = b.toNat := wrap_i64 (by omega) (by have := b.toNat_lt; omega)
theorem wrap_bu (b : UInt8) : IntKind.wrap .u64 (b.toNat : Int) = b.toNat := wrap_u64 (by omega) (by have := b.toNat_lt; omega)
theorem wrap_bb (b : UInt8) : IntKind.wrap .u8 (b.toNat : Int) = b.toNat := wrap_u8 (by omega) (by have := b.toNat_lt; omega)
attribute [go_sem] wrap_i64 wrap_u64 wrap_u32 wrap_u8 wrap_bi wrap_bu wrap_bb

theorem ex_box {t : TypeId} {c : List V} {p : TypeId → List V → Prop} : (∃ T' cs, Ob.box t c = Ob.box T' cs ∧ p T' cs) ↔ p t c :=
  ⟨fun ⟨_, _, e, h⟩ => by cases e; exact h, fun h => ⟨_, _, rfl, h⟩⟩
theorem ex_row1 {E z n n' : Nat} {c : List D} {p : Nat → Nat → List D → List D → Prop} : (∃ E' z' cs ys, Ob.row E z n c = Ob.row E' z' n' cs ∧ p E' z' cs ys) ↔ n = n' ∧ ∃ ys, p E z c ys :=
  ⟨fun ⟨_, _, _, _, e, h⟩ => by cases e; exact ⟨rfl, _, h⟩, fun ⟨e, ys, h⟩ => ⟨_, _, _, _, by rw [e], h⟩⟩
theorem ex_row2 {E E' z z' n n' : Nat} {c : List D} {p : List D → Prop} : (∃ cs, Ob.row E z n c = Ob.row E' z' n' cs ∧ p cs) ↔ E = E' ∧ z = z' ∧ n = n' ∧ p c :=
  ⟨fun ⟨_, e, h⟩ => by cases e; exact ⟨rfl, rfl, rfl, h⟩, fun ⟨e, e', e'', h⟩ => ⟨_, by rw [e, e', e''], h⟩⟩
attribute [go_sem] ex_box ex_row1 ex_row2 exists_and_left and_assoc exists_eq'

section
variable {P : Program} {N k : Nat} {T : Tm} {σ : List Ob} {Q : Ex → Tm → List Ob → Prop} {K : Tm → List Ob → Prop}

theorem thenQ_n (h : K T σ) : thenQ K Q .normal T σ := h
theorem thenQ_r (h : Q .ret T σ) : thenQ K Q .ret T σ := h
theorem thenQ_e {i : Nat} (h : Q (.exit i) T σ) : thenQ K Q (.exit i) T σ := h
theorem blockQ_n {i : Nat} (h : Q .normal T σ) : blockQ i Q .normal T σ := h
theorem blockQ_r {i : Nat} (h : Q .ret T σ) : blockQ i Q .ret T σ := h
theorem blockQ_e {i : Nat} (h : Q .normal T σ) : blockQ i Q (.exit i) T σ := by simp only [blockQ, if_true]; exact h
theorem blockQ_o {i j : Nat} (hij : j ≠ i) (h : Q (.exit j) T σ) : blockQ i Q (.exit j) T σ := by simp only [blockQ, if_neg hij]; exact h

theorem AW.seq' {x y : Code} (h : AW P N k x (thenQ (AW P N k y Q) Q) T σ) : AW P N k (.seq x y) Q T σ :=
  AW.seq fun K hK => AW.mono h fun e T σ q => by cases e <;> first | exact hK _ _ q | exact q

/-- What a function's end must give. -/
def RetQ (P : Program) (n : Nat) (rs : List ResultVar) (R : V → List Ob → Prop) : Ex → Tm → List Ob → Prop
  | .exit _, _, _ => False
  | _, T, σ => ∃ xs m, resV P σ T rs = some xs ∧ n ≤ m ∧ obsLt m (σ.take m) = true ∧ (fz σ m (one1 xs)).lt m = true ∧ R (fz σ m (one1 xs)) (σ.take m)

theorem AC.walk {f : FuncId} {fn : Func} {c : Code} {args : List V} {R : V → List Ob → Prop} (hf : P.funcs[f]? = some fn) (hb : fn.body = some c) (hname : fn.name ≠ "runtime.NumGoroutine") (hN : args.length ≤ fn.ntmps)
    (h : AW P fn.ntmps σ.length c (RetQ P σ.length fn.results.toList R) (ent 0 args) σ) : AC P f args σ R :=
  AC.intro hf hb hname hN (AW.mono h fun e T σ q => by cases e <;> first | exact q.elim | exact ⟨trivial, q⟩)

theorem RetQ.r {n : Nat} {rs : List ResultVar} {R : V → List Ob → Prop} (m : Nat) {xs : List V} (h1 : resV P σ T rs = some xs) (h2 : n ≤ m) (h3 : obsLt m (σ.take m) = true) (h4 : (fz σ m (one1 xs)).lt m = true) (h5 : R (fz σ m (one1 xs)) (σ.take m)) :
    RetQ P n rs R .ret T σ := ⟨xs, m, h1, h2, h3, h4, h5⟩
theorem RetQ.n {n : Nat} {rs : List ResultVar} {R : V → List Ob → Prop} (m : Nat) {xs : List V} (h1 : resV P σ T rs = some xs) (h2 : n ≤ m) (h3 : obsLt m (σ.take m) = true) (h4 : (fz σ m (one1 xs)).lt m = true) (h5 : R (fz σ m (one1 xs)) (σ.take m)) :
    RetQ P n rs R .normal T σ := ⟨xs, m, h1, h2, h3, h4, h5⟩

/-- A loop whose slots and store are those of a thing x. -/
theorem AW.rounds {X : Type} {c : Code} (ts : List Nat) (Tf : X → Tm) (σf : X → List Ob) (Pf : X → Prop) (μf : X → Nat) (x0 : X) (h0 : Pf x0) (hT : keepT T ts = Tf x0) (hσ : σ.take (σf x0).length = σf x0)
    (hk : ∀ x, Pf x → k ≤ (σf x).length) (ho : ∀ x, Pf x → obsLt (σf x).length (σf x) = true) (ht : ∀ x, Pf x → tLt (σf x).length (Tf x) = true)
    (round : ∀ x, Pf x → ∀ J : Tm → List Ob → Prop, (∀ x' T' σ', μf x' < μf x → Pf x' → keepT T' ts = Tf x' → σ'.take (σf x').length = σf x' → J T' σ') → AW P N k c (thenQ J Q) (Tf x) (σf x)) : AW P N k (.loop c) Q T σ := by
  refine AW.loop (fun n T σ => ∃ x, μf x = n ∧ Pf x ∧ keepT T ts = Tf x ∧ σ.take (σf x).length = σf x) (μf x0) ⟨x0, rfl, h0, hT, hσ⟩ ?_
  rintro n T σ ⟨x, rfl, hp, hT, hσ⟩ J hJ
  refine AW.forget ts (σf x).length (hk x hp) (by rw [hσ]; exact ho x hp) (by rw [hT]; exact ht x hp) ?_
  rw [hT, hσ]
  exact round x hp J fun x' T' σ' h1 h2 h3 h4 => hJ (μf x') T' σ' h1 ⟨x', rfl, h2, h3, h4⟩
end
end Go.AW
/-
  The calculus: a call over the whole store, as it stands (closures, whose captured variables are among the frame's objects).
-/
namespace Go.AW
open Go

section
variable {P : Program} {N k : Nat} {T : Tm} {σ : List Ob}
theorem AOp.cS {T' : Tm} {R Qs : V → List Ob → Prop} {f : FuncId} {fv : Operand} {args : Array Operand} {ts : Array TypeId} {ty : TypeId} {pos : String} {af : Array Edge} {gd : Option (Nat × Bool)} {dst : Option Tmp} {fi ca ag : List V}
    (hT : ∀ x ∈ (Op.call { callee := .value fv, args := args, argTypes := ts }).operands, ev T x = ev T' x) (hf : ev T fv = .f (.func f) fi ca) (hc : AC P f ag σ Qs) (has : nzs (fi ++ args.toList.map (ev T) ++ ca) = ag)
    (h : ∀ y obs, Qs y obs → R y obs) : AOp P N k ⟨dst, .call { callee := .value fv, args := args, argTypes := ts }, ty, pos, af, gd⟩ T' σ R := by
  have e : args.toList.map (ev T) = args.toList.map (ev T') := List.map_congr_left fun x hx => hT x (by simp [Op.operands, Call.operands]; exact .inr (by simpa using hx))
  refine AOp.call (by rw [← hT fv (by simp [Op.operands, Call.operands])]; exact hf) ?_
  rw [← e, has]
  exact hc.mono h
end
end Go.AW
