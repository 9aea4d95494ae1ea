/-
  The types of the program, as far as its functions look at them: shapes, places, zero cells.
-/
import Derived.Test.YtiiacdheopdooaaMb
import Derived.Test.YtiiacdheopdooaaRows
import Derived.KernelRfl
namespace Go.AW
open Go Go.Proofs

theorem T.mixed : Try.prog.follows .mixedOrders = true := by kernel_rfl
@[go_sem] theorem T.arrT_287 : arrT Try.prog 287 = some (8, 1) := by kernel_rfl
@[go_sem] theorem T.eqT_107 : eqT Try.prog 107 = some [.s, .i] := by kernel_rfl
@[go_sem] theorem T.eqT_162 : eqT Try.prog 162 = some [.s, .s] := by kernel_rfl
@[go_sem] theorem T.fldOff_38_0 : fldOff Try.prog 38 0 = some 0 := by kernel_rfl
@[go_sem] theorem T.fldOff_38_1 : fldOff Try.prog 38 1 = some 1 := by kernel_rfl
@[go_sem] theorem T.fldOff_38_2 : fldOff Try.prog 38 2 = some 2 := by kernel_rfl
@[go_sem] theorem T.fldOff_40_0 : fldOff Try.prog 40 0 = some 0 := by kernel_rfl
@[go_sem] theorem T.fldOff_40_1 : fldOff Try.prog 40 1 = some 1 := by kernel_rfl
@[go_sem] theorem T.fldOff_40_2 : fldOff Try.prog 40 2 = some 2 := by kernel_rfl
@[go_sem] theorem T.fldOff_40_3 : fldOff Try.prog 40 3 = some 3 := by kernel_rfl
@[go_sem] theorem T.fldOff_40_4 : fldOff Try.prog 40 4 = some 4 := by kernel_rfl
@[go_sem] theorem T.fldOff_58_0 : fldOff Try.prog 58 0 = some 0 := by kernel_rfl
@[go_sem] theorem T.fldOff_58_1 : fldOff Try.prog 58 1 = some 1 := by kernel_rfl
@[go_sem] theorem T.fldOff_58_2 : fldOff Try.prog 58 2 = some 2 := by kernel_rfl
@[go_sem] theorem T.fldOff_64_0 : fldOff Try.prog 64 0 = some 0 := by kernel_rfl
@[go_sem] theorem T.fldOff_64_1 : fldOff Try.prog 64 1 = some 1 := by kernel_rfl
@[go_sem] theorem T.fldOff_107_0 : fldOff Try.prog 107 0 = some 0 := by kernel_rfl
@[go_sem] theorem T.fldOff_107_1 : fldOff Try.prog 107 1 = some 1 := by kernel_rfl
@[go_sem] theorem T.fldOff_109_0 : fldOff Try.prog 109 0 = some 0 := by kernel_rfl
@[go_sem] theorem T.fldOff_109_1 : fldOff Try.prog 109 1 = some 1 := by kernel_rfl
@[go_sem] theorem T.fldOff_109_2 : fldOff Try.prog 109 2 = some 2 := by kernel_rfl
@[go_sem] theorem T.fldOff_138_0 : fldOff Try.prog 138 0 = some 0 := by kernel_rfl
@[go_sem] theorem T.fldOff_138_1 : fldOff Try.prog 138 1 = some 1 := by kernel_rfl
@[go_sem] theorem T.fldOff_138_2 : fldOff Try.prog 138 2 = some 2 := by kernel_rfl
@[go_sem] theorem T.fldOff_138_3 : fldOff Try.prog 138 3 = some 3 := by kernel_rfl
@[go_sem] theorem T.fldOff_147_0 : fldOff Try.prog 147 0 = some 0 := by kernel_rfl
@[go_sem] theorem T.fldOff_147_1 : fldOff Try.prog 147 1 = some 4 := by kernel_rfl
@[go_sem] theorem T.fldOff_147_2 : fldOff Try.prog 147 2 = some 5 := by kernel_rfl
@[go_sem] theorem T.fldOff_147_3 : fldOff Try.prog 147 3 = some 6 := by kernel_rfl
@[go_sem] theorem T.fldOff_162_0 : fldOff Try.prog 162 0 = some 0 := by kernel_rfl
@[go_sem] theorem T.fldOff_162_1 : fldOff Try.prog 162 1 = some 1 := by kernel_rfl
@[go_sem] theorem T.fldOff_171_0 : fldOff Try.prog 171 0 = some 0 := by kernel_rfl
@[go_sem] theorem T.fldOff_171_1 : fldOff Try.prog 171 1 = some 1 := by kernel_rfl
@[go_sem] theorem T.fldOff_197_0 : fldOff Try.prog 197 0 = some 0 := by kernel_rfl
@[go_sem] theorem T.fldOff_197_1 : fldOff Try.prog 197 1 = some 1 := by kernel_rfl
@[go_sem] theorem T.fldOff_197_2 : fldOff Try.prog 197 2 = some 2 := by kernel_rfl
@[go_sem] theorem T.fldOff_202_0 : fldOff Try.prog 202 0 = some 0 := by kernel_rfl
@[go_sem] theorem T.fldOff_202_1 : fldOff Try.prog 202 1 = some 1 := by kernel_rfl
@[go_sem] theorem T.fldOff_202_2 : fldOff Try.prog 202 2 = some 2 := by kernel_rfl
@[go_sem] theorem T.fldOff_212_0 : fldOff Try.prog 212 0 = some 0 := by kernel_rfl
@[go_sem] theorem T.fldOff_212_1 : fldOff Try.prog 212 1 = some 1 := by kernel_rfl
@[go_sem] theorem T.fldOff_212_2 : fldOff Try.prog 212 2 = some 2 := by kernel_rfl
@[go_sem] theorem T.fldOff_235_0 : fldOff Try.prog 235 0 = some 0 := by kernel_rfl
@[go_sem] theorem T.fldOff_235_1 : fldOff Try.prog 235 1 = some 1 := by kernel_rfl
@[go_sem] theorem T.intT_3 : intT Try.prog 3 = some .i64 := by kernel_rfl
@[go_sem] theorem T.intT_5 : intT Try.prog 5 = some .u8 := by kernel_rfl
@[go_sem] theorem T.intT_105 : intT Try.prog 105 = some .u64 := by kernel_rfl
@[go_sem] theorem T.intT_284 : intT Try.prog 284 = some .u64 := by kernel_rfl
@[go_sem] theorem T.isB_4 : isB Try.prog 4 = true := by kernel_rfl
@[go_sem] theorem T.isK_3 : isK Try.prog 3 = true := by kernel_rfl
@[go_sem] theorem T.isK_5 : isK Try.prog 5 = true := by kernel_rfl
@[go_sem] theorem T.isK_105 : isK Try.prog 105 = true := by kernel_rfl
@[go_sem] theorem T.isK_160 : isK Try.prog 160 = true := by kernel_rfl
@[go_sem] theorem T.isK_284 : isK Try.prog 284 = true := by kernel_rfl
@[go_sem] theorem T.isP_24 : isP Try.prog 24 = true := by kernel_rfl
@[go_sem] theorem T.isP_34 : isP Try.prog 34 = true := by kernel_rfl
@[go_sem] theorem T.isS_9 : isS Try.prog 9 = true := by kernel_rfl
@[go_sem] theorem T.plc_38 : plc Try.prog 38 = some ([.string ⟨#[]⟩, .int .i64 0, .int .i64 0], [(0, 1), (1, 1), (2, 1)]) := by kernel_rfl
@[go_sem] theorem T.plc_58 : plc Try.prog 58 = some ([.string ⟨#[]⟩, .int .i64 0, .int .i64 0], [(0, 1), (1, 1), (2, 1)]) := by kernel_rfl
@[go_sem] theorem T.plc_64 : plc Try.prog 64 = some ([.string ⟨#[]⟩, .slice none 0 0], [(0, 1), (1, 1)]) := by kernel_rfl
@[go_sem] theorem T.plc_107 : plc Try.prog 107 = some ([.string ⟨#[]⟩, .int .u64 0], [(0, 1), (1, 1)]) := by kernel_rfl
@[go_sem] theorem T.plc_109 : plc Try.prog 109 = some ([.slice none 0 0, .bool false, .string ⟨#[]⟩, .int .u64 0], [(0, 1), (1, 1), (2, 2)]) := by kernel_rfl
@[go_sem] theorem T.plc_138 : plc Try.prog 138 = some ([.string ⟨#[]⟩, .int .u64 0, .int .u8 0, .slice none 0 0], [(0, 1), (1, 1), (2, 1), (3, 1)]) := by kernel_rfl
@[go_sem] theorem T.plc_147 : plc Try.prog 147 = some ([.slice none 0 0, .bool false, .string ⟨#[]⟩, .int .u64 0, .slice none 0 0, .bool false, .string ⟨#[]⟩], [(0, 4), (4, 1), (5, 1), (6, 1)]) := by kernel_rfl
@[go_sem] theorem T.plc_162 : plc Try.prog 162 = some ([.string ⟨#[]⟩, .string ⟨#[]⟩], [(0, 1), (1, 1)]) := by kernel_rfl
@[go_sem] theorem T.plc_171 : plc Try.prog 171 = some ([.string ⟨#[]⟩, .slice none 0 0], [(0, 1), (1, 1)]) := by kernel_rfl
@[go_sem] theorem T.plc_197 : plc Try.prog 197 = some ([.slice none 0 0, .int .i64 0, .int .i64 0], [(0, 1), (1, 1), (2, 1)]) := by kernel_rfl
@[go_sem] theorem T.plc_202 : plc Try.prog 202 = some ([.string ⟨#[]⟩, .int .i64 0, .int .i64 0], [(0, 1), (1, 1), (2, 1)]) := by kernel_rfl
@[go_sem] theorem T.plc_212 : plc Try.prog 212 = some ([.slice none 0 0, .bool false, .string ⟨#[]⟩], [(0, 1), (1, 1), (2, 1)]) := by kernel_rfl
@[go_sem] theorem T.plc_235 : plc Try.prog 235 = some ([.int .u64 0, .string ⟨#[]⟩], [(0, 1), (1, 1)]) := by kernel_rfl
@[go_sem] theorem T.shp_3 : shp Try.prog 3 = some none := by kernel_rfl
@[go_sem] theorem T.shp_4 : shp Try.prog 4 = some none := by kernel_rfl
@[go_sem] theorem T.shp_5 : shp Try.prog 5 = some none := by kernel_rfl
@[go_sem] theorem T.shp_9 : shp Try.prog 9 = some none := by kernel_rfl
@[go_sem] theorem T.shp_22 : shp Try.prog 22 = some none := by kernel_rfl
@[go_sem] theorem T.shp_27 : shp Try.prog 27 = some none := by kernel_rfl
@[go_sem] theorem T.shp_40 : shp Try.prog 40 = some (some 5) := by kernel_rfl
@[go_sem] theorem T.shp_62 : shp Try.prog 62 = some none := by kernel_rfl
@[go_sem] theorem T.shp_64 : shp Try.prog 64 = some (some 2) := by kernel_rfl
@[go_sem] theorem T.shp_72 : shp Try.prog 72 = some none := by kernel_rfl
@[go_sem] theorem T.shp_105 : shp Try.prog 105 = some none := by kernel_rfl
@[go_sem] theorem T.shp_107 : shp Try.prog 107 = some (some 2) := by kernel_rfl
@[go_sem] theorem T.shp_109 : shp Try.prog 109 = some (some 4) := by kernel_rfl
@[go_sem] theorem T.shp_136 : shp Try.prog 136 = some none := by kernel_rfl
@[go_sem] theorem T.shp_138 : shp Try.prog 138 = some (some 4) := by kernel_rfl
@[go_sem] theorem T.shp_143 : shp Try.prog 143 = some none := by kernel_rfl
@[go_sem] theorem T.shp_145 : shp Try.prog 145 = some none := by kernel_rfl
@[go_sem] theorem T.shp_147 : shp Try.prog 147 = some (some 7) := by kernel_rfl
@[go_sem] theorem T.shp_160 : shp Try.prog 160 = some none := by kernel_rfl
@[go_sem] theorem T.shp_162 : shp Try.prog 162 = some (some 2) := by kernel_rfl
@[go_sem] theorem T.shp_171 : shp Try.prog 171 = some (some 2) := by kernel_rfl
@[go_sem] theorem T.shp_212 : shp Try.prog 212 = some (some 3) := by kernel_rfl
@[go_sem] theorem T.shp_233 : shp Try.prog 233 = some none := by kernel_rfl
@[go_sem] theorem T.shp_235 : shp Try.prog 235 = some (some 2) := by kernel_rfl
@[go_sem] theorem T.shp_287 : shp Try.prog 287 = some (some 8) := by kernel_rfl
@[go_sem] theorem T.sliT_22 : sliT Try.prog 22 = some (9, 1, 16) := by kernel_rfl
@[go_sem] theorem T.sliT_33 : sliT Try.prog 33 = some (40, 5, 48) := by kernel_rfl
@[go_sem] theorem T.sliT_62 : sliT Try.prog 62 = some (212, 3, 48) := by kernel_rfl
@[go_sem] theorem T.sliT_70 : sliT Try.prog 70 = some (72, 1, 24) := by kernel_rfl
@[go_sem] theorem T.sliT_72 : sliT Try.prog 72 = some (107, 2, 24) := by kernel_rfl
@[go_sem] theorem T.sliT_88 : sliT Try.prog 88 = some (138, 4, 56) := by kernel_rfl
@[go_sem] theorem T.sliT_103 : sliT Try.prog 103 = some (109, 4, 56) := by kernel_rfl
@[go_sem] theorem T.sliT_136 : sliT Try.prog 136 = some (105, 1, 8) := by kernel_rfl
@[go_sem] theorem T.sliT_143 : sliT Try.prog 143 = some (147, 7, 104) := by kernel_rfl
@[go_sem] theorem T.sliT_145 : sliT Try.prog 145 = some (162, 2, 32) := by kernel_rfl
@[go_sem] theorem T.sliT_160 : sliT Try.prog 160 = some (5, 1, 1) := by kernel_rfl
@[go_sem] theorem T.sliT_233 : sliT Try.prog 233 = some (235, 2, 24) := by kernel_rfl
@[go_sem] theorem T.wid_3 : wid Try.prog 3 = some 1 := by kernel_rfl
@[go_sem] theorem T.wid_4 : wid Try.prog 4 = some 1 := by kernel_rfl
@[go_sem] theorem T.wid_5 : wid Try.prog 5 = some 1 := by kernel_rfl
@[go_sem] theorem T.wid_9 : wid Try.prog 9 = some 1 := by kernel_rfl
@[go_sem] theorem T.wid_22 : wid Try.prog 22 = some 1 := by kernel_rfl
@[go_sem] theorem T.wid_27 : wid Try.prog 27 = some 1 := by kernel_rfl
@[go_sem] theorem T.wid_40 : wid Try.prog 40 = some 5 := by kernel_rfl
@[go_sem] theorem T.wid_62 : wid Try.prog 62 = some 1 := by kernel_rfl
@[go_sem] theorem T.wid_64 : wid Try.prog 64 = some 2 := by kernel_rfl
@[go_sem] theorem T.wid_72 : wid Try.prog 72 = some 1 := by kernel_rfl
@[go_sem] theorem T.wid_105 : wid Try.prog 105 = some 1 := by kernel_rfl
@[go_sem] theorem T.wid_107 : wid Try.prog 107 = some 2 := by kernel_rfl
@[go_sem] theorem T.wid_109 : wid Try.prog 109 = some 4 := by kernel_rfl
@[go_sem] theorem T.wid_136 : wid Try.prog 136 = some 1 := by kernel_rfl
@[go_sem] theorem T.wid_138 : wid Try.prog 138 = some 4 := by kernel_rfl
@[go_sem] theorem T.wid_143 : wid Try.prog 143 = some 1 := by kernel_rfl
@[go_sem] theorem T.wid_145 : wid Try.prog 145 = some 1 := by kernel_rfl
@[go_sem] theorem T.wid_147 : wid Try.prog 147 = some 7 := by kernel_rfl
@[go_sem] theorem T.wid_160 : wid Try.prog 160 = some 1 := by kernel_rfl
@[go_sem] theorem T.wid_162 : wid Try.prog 162 = some 2 := by kernel_rfl
@[go_sem] theorem T.wid_171 : wid Try.prog 171 = some 2 := by kernel_rfl
@[go_sem] theorem T.wid_212 : wid Try.prog 212 = some 3 := by kernel_rfl
@[go_sem] theorem T.wid_235 : wid Try.prog 235 = some 2 := by kernel_rfl
@[go_sem] theorem T.zr_22 : zr Try.prog 22 = some [.slice none 0 0] := by kernel_rfl
@[go_sem] theorem T.zr_40 : zr Try.prog 40 = some [.int .i64 0, .int .i64 0, .int .i64 0, .string ⟨#[]⟩, .bool false] := by kernel_rfl
@[go_sem] theorem T.zr_64 : zr Try.prog 64 = some [.string ⟨#[]⟩, .slice none 0 0] := by kernel_rfl
@[go_sem] theorem T.zr_107 : zr Try.prog 107 = some [.string ⟨#[]⟩, .int .u64 0] := by kernel_rfl
@[go_sem] theorem T.zr_109 : zr Try.prog 109 = some [.slice none 0 0, .bool false, .string ⟨#[]⟩, .int .u64 0] := by kernel_rfl
@[go_sem] theorem T.zr_138 : zr Try.prog 138 = some [.string ⟨#[]⟩, .int .u64 0, .int .u8 0, .slice none 0 0] := by kernel_rfl
@[go_sem] theorem T.zr_147 : zr Try.prog 147 = some [.slice none 0 0, .bool false, .string ⟨#[]⟩, .int .u64 0, .slice none 0 0, .bool false, .string ⟨#[]⟩] := by kernel_rfl
@[go_sem] theorem T.zr_162 : zr Try.prog 162 = some [.string ⟨#[]⟩, .string ⟨#[]⟩] := by kernel_rfl
@[go_sem] theorem T.zr_171 : zr Try.prog 171 = some [.string ⟨#[]⟩, .slice none 0 0] := by kernel_rfl
@[go_sem] theorem T.zr_212 : zr Try.prog 212 = some [.slice none 0 0, .bool false, .string ⟨#[]⟩] := by kernel_rfl
@[go_sem] theorem T.zr_235 : zr Try.prog 235 = some [.int .u64 0, .string ⟨#[]⟩] := by kernel_rfl
@[go_sem] theorem T.zr_287 : zr Try.prog 287 = some [.int .u8 0, .int .u8 0, .int .u8 0, .int .u8 0, .int .u8 0, .int .u8 0, .int .u8 0, .int .u8 0] := by kernel_rfl
end Go.AW
