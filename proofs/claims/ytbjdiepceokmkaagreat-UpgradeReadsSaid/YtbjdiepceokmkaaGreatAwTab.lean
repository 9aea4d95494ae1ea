/-
  The types of the program, as far as its functions look at them: shapes, places, zero cells.
-/
import Derived.Test.YtbjdiepceokmkaaGreatMb
import Derived.Test.YtbjdiepceokmkaaGreatRows
import Derived.KernelRfl
namespace Go.AW
open Go Go.Proofs

theorem T.mixed : Tryz.prog.follows .mixedOrders = true := by kernel_rfl
@[go_sem] theorem T.eqT_49 : eqT Tryz.prog 49 = some [.s, .i] := by kernel_rfl
@[go_sem] theorem T.eqT_140 : eqT Tryz.prog 140 = some [.s, .s] := by kernel_rfl
@[go_sem] theorem T.fldOff_25_0 : fldOff Tryz.prog 25 0 = some 0 := by kernel_rfl
@[go_sem] theorem T.fldOff_25_1 : fldOff Tryz.prog 25 1 = some 1 := by kernel_rfl
@[go_sem] theorem T.fldOff_35_0 : fldOff Tryz.prog 35 0 = some 0 := by kernel_rfl
@[go_sem] theorem T.fldOff_35_1 : fldOff Tryz.prog 35 1 = some 1 := by kernel_rfl
@[go_sem] theorem T.fldOff_49_0 : fldOff Tryz.prog 49 0 = some 0 := by kernel_rfl
@[go_sem] theorem T.fldOff_49_1 : fldOff Tryz.prog 49 1 = some 1 := by kernel_rfl
@[go_sem] theorem T.fldOff_52_0 : fldOff Tryz.prog 52 0 = some 0 := by kernel_rfl
@[go_sem] theorem T.fldOff_52_1 : fldOff Tryz.prog 52 1 = some 1 := by kernel_rfl
@[go_sem] theorem T.fldOff_52_2 : fldOff Tryz.prog 52 2 = some 2 := by kernel_rfl
@[go_sem] theorem T.fldOff_54_0 : fldOff Tryz.prog 54 0 = some 0 := by kernel_rfl
@[go_sem] theorem T.fldOff_54_1 : fldOff Tryz.prog 54 1 = some 1 := by kernel_rfl
@[go_sem] theorem T.fldOff_54_2 : fldOff Tryz.prog 54 2 = some 2 := by kernel_rfl
@[go_sem] theorem T.fldOff_57_0 : fldOff Tryz.prog 57 0 = some 0 := by kernel_rfl
@[go_sem] theorem T.fldOff_57_1 : fldOff Tryz.prog 57 1 = some 4 := by kernel_rfl
@[go_sem] theorem T.fldOff_57_2 : fldOff Tryz.prog 57 2 = some 5 := by kernel_rfl
@[go_sem] theorem T.fldOff_57_3 : fldOff Tryz.prog 57 3 = some 6 := by kernel_rfl
@[go_sem] theorem T.fldOff_101_0 : fldOff Tryz.prog 101 0 = some 0 := by kernel_rfl
@[go_sem] theorem T.fldOff_101_1 : fldOff Tryz.prog 101 1 = some 1 := by kernel_rfl
@[go_sem] theorem T.fldOff_101_2 : fldOff Tryz.prog 101 2 = some 2 := by kernel_rfl
@[go_sem] theorem T.fldOff_120_0 : fldOff Tryz.prog 120 0 = some 0 := by kernel_rfl
@[go_sem] theorem T.fldOff_120_1 : fldOff Tryz.prog 120 1 = some 1 := by kernel_rfl
@[go_sem] theorem T.fldOff_120_2 : fldOff Tryz.prog 120 2 = some 2 := by kernel_rfl
@[go_sem] theorem T.fldOff_125_0 : fldOff Tryz.prog 125 0 = some 0 := by kernel_rfl
@[go_sem] theorem T.fldOff_125_1 : fldOff Tryz.prog 125 1 = some 1 := by kernel_rfl
@[go_sem] theorem T.fldOff_125_2 : fldOff Tryz.prog 125 2 = some 2 := by kernel_rfl
@[go_sem] theorem T.fldOff_140_0 : fldOff Tryz.prog 140 0 = some 0 := by kernel_rfl
@[go_sem] theorem T.fldOff_140_1 : fldOff Tryz.prog 140 1 = some 1 := by kernel_rfl
@[go_sem] theorem T.fldOff_171_0 : fldOff Tryz.prog 171 0 = some 0 := by kernel_rfl
@[go_sem] theorem T.fldOff_171_1 : fldOff Tryz.prog 171 1 = some 1 := by kernel_rfl
@[go_sem] theorem T.fldOff_171_2 : fldOff Tryz.prog 171 2 = some 2 := by kernel_rfl
@[go_sem] theorem T.intT_3 : intT Tryz.prog 3 = some .i64 := by kernel_rfl
@[go_sem] theorem T.intT_5 : intT Tryz.prog 5 = some .u8 := by kernel_rfl
@[go_sem] theorem T.intT_47 : intT Tryz.prog 47 = some .u64 := by kernel_rfl
@[go_sem] theorem T.intT_176 : intT Tryz.prog 176 = some .u64 := by kernel_rfl
@[go_sem] theorem T.isB_4 : isB Tryz.prog 4 = true := by kernel_rfl
@[go_sem] theorem T.isK_3 : isK Tryz.prog 3 = true := by kernel_rfl
@[go_sem] theorem T.isK_5 : isK Tryz.prog 5 = true := by kernel_rfl
@[go_sem] theorem T.isK_47 : isK Tryz.prog 47 = true := by kernel_rfl
@[go_sem] theorem T.isK_118 : isK Tryz.prog 118 = true := by kernel_rfl
@[go_sem] theorem T.isK_176 : isK Tryz.prog 176 = true := by kernel_rfl
@[go_sem] theorem T.isP_72 : isP Tryz.prog 72 = true := by kernel_rfl
@[go_sem] theorem T.isP_76 : isP Tryz.prog 76 = true := by kernel_rfl
@[go_sem] theorem T.isS_9 : isS Tryz.prog 9 = true := by kernel_rfl
@[go_sem] theorem T.plc_25 : plc Tryz.prog 25 = some ([.string ⟨#[]⟩, .slice none 0 0], [(0, 1), (1, 1)]) := by kernel_rfl
@[go_sem] theorem T.plc_35 : plc Tryz.prog 35 = some ([.string ⟨#[]⟩, .slice none 0 0], [(0, 1), (1, 1)]) := by kernel_rfl
@[go_sem] theorem T.plc_49 : plc Tryz.prog 49 = some ([.string ⟨#[]⟩, .int .u64 0], [(0, 1), (1, 1)]) := by kernel_rfl
@[go_sem] theorem T.plc_52 : plc Tryz.prog 52 = some ([.slice none 0 0, .bool false, .string ⟨#[]⟩], [(0, 1), (1, 1), (2, 1)]) := by kernel_rfl
@[go_sem] theorem T.plc_54 : plc Tryz.prog 54 = some ([.slice none 0 0, .bool false, .string ⟨#[]⟩, .int .u64 0], [(0, 1), (1, 1), (2, 2)]) := by kernel_rfl
@[go_sem] theorem T.plc_57 : plc Tryz.prog 57 = some ([.slice none 0 0, .bool false, .string ⟨#[]⟩, .int .u64 0, .slice none 0 0, .bool false, .string ⟨#[]⟩], [(0, 4), (4, 1), (5, 1), (6, 1)]) := by kernel_rfl
@[go_sem] theorem T.plc_101 : plc Tryz.prog 101 = some ([.string ⟨#[]⟩, .int .i64 0, .int .i64 0], [(0, 1), (1, 1), (2, 1)]) := by kernel_rfl
@[go_sem] theorem T.plc_120 : plc Tryz.prog 120 = some ([.slice none 0 0, .int .i64 0, .int .i64 0], [(0, 1), (1, 1), (2, 1)]) := by kernel_rfl
@[go_sem] theorem T.plc_125 : plc Tryz.prog 125 = some ([.string ⟨#[]⟩, .int .i64 0, .int .i64 0], [(0, 1), (1, 1), (2, 1)]) := by kernel_rfl
@[go_sem] theorem T.plc_140 : plc Tryz.prog 140 = some ([.string ⟨#[]⟩, .string ⟨#[]⟩], [(0, 1), (1, 1)]) := by kernel_rfl
@[go_sem] theorem T.plc_171 : plc Tryz.prog 171 = some ([.string ⟨#[]⟩, .int .i64 0, .int .i64 0], [(0, 1), (1, 1), (2, 1)]) := by kernel_rfl
@[go_sem] theorem T.shp_3 : shp Tryz.prog 3 = some none := by kernel_rfl
@[go_sem] theorem T.shp_4 : shp Tryz.prog 4 = some none := by kernel_rfl
@[go_sem] theorem T.shp_5 : shp Tryz.prog 5 = some none := by kernel_rfl
@[go_sem] theorem T.shp_9 : shp Tryz.prog 9 = some none := by kernel_rfl
@[go_sem] theorem T.shp_23 : shp Tryz.prog 23 = some none := by kernel_rfl
@[go_sem] theorem T.shp_25 : shp Tryz.prog 25 = some (some 2) := by kernel_rfl
@[go_sem] theorem T.shp_26 : shp Tryz.prog 26 = some none := by kernel_rfl
@[go_sem] theorem T.shp_33 : shp Tryz.prog 33 = some none := by kernel_rfl
@[go_sem] theorem T.shp_35 : shp Tryz.prog 35 = some (some 2) := by kernel_rfl
@[go_sem] theorem T.shp_47 : shp Tryz.prog 47 = some none := by kernel_rfl
@[go_sem] theorem T.shp_49 : shp Tryz.prog 49 = some (some 2) := by kernel_rfl
@[go_sem] theorem T.shp_50 : shp Tryz.prog 50 = some none := by kernel_rfl
@[go_sem] theorem T.shp_52 : shp Tryz.prog 52 = some (some 3) := by kernel_rfl
@[go_sem] theorem T.shp_54 : shp Tryz.prog 54 = some (some 4) := by kernel_rfl
@[go_sem] theorem T.shp_55 : shp Tryz.prog 55 = some none := by kernel_rfl
@[go_sem] theorem T.shp_57 : shp Tryz.prog 57 = some (some 7) := by kernel_rfl
@[go_sem] theorem T.shp_118 : shp Tryz.prog 118 = some none := by kernel_rfl
@[go_sem] theorem T.shp_140 : shp Tryz.prog 140 = some (some 2) := by kernel_rfl
@[go_sem] theorem T.sliT_23 : sliT Tryz.prog 23 = some (57, 7, 104) := by kernel_rfl
@[go_sem] theorem T.sliT_33 : sliT Tryz.prog 33 = some (52, 3, 48) := by kernel_rfl
@[go_sem] theorem T.sliT_50 : sliT Tryz.prog 50 = some (49, 2, 24) := by kernel_rfl
@[go_sem] theorem T.sliT_55 : sliT Tryz.prog 55 = some (140, 2, 32) := by kernel_rfl
@[go_sem] theorem T.sliT_118 : sliT Tryz.prog 118 = some (5, 1, 1) := by kernel_rfl
@[go_sem] theorem T.sliT_146 : sliT Tryz.prog 146 = some (9, 1, 16) := by kernel_rfl
@[go_sem] theorem T.sliT_163 : sliT Tryz.prog 163 = some (47, 1, 8) := by kernel_rfl
@[go_sem] theorem T.sliT_166 : sliT Tryz.prog 166 = some (54, 4, 56) := by kernel_rfl
@[go_sem] theorem T.sliT_177 : sliT Tryz.prog 177 = some (50, 1, 24) := by kernel_rfl
@[go_sem] theorem T.wid_3 : wid Tryz.prog 3 = some 1 := by kernel_rfl
@[go_sem] theorem T.wid_4 : wid Tryz.prog 4 = some 1 := by kernel_rfl
@[go_sem] theorem T.wid_9 : wid Tryz.prog 9 = some 1 := by kernel_rfl
@[go_sem] theorem T.wid_23 : wid Tryz.prog 23 = some 1 := by kernel_rfl
@[go_sem] theorem T.wid_25 : wid Tryz.prog 25 = some 2 := by kernel_rfl
@[go_sem] theorem T.wid_26 : wid Tryz.prog 26 = some 1 := by kernel_rfl
@[go_sem] theorem T.wid_33 : wid Tryz.prog 33 = some 1 := by kernel_rfl
@[go_sem] theorem T.wid_35 : wid Tryz.prog 35 = some 2 := by kernel_rfl
@[go_sem] theorem T.wid_47 : wid Tryz.prog 47 = some 1 := by kernel_rfl
@[go_sem] theorem T.wid_49 : wid Tryz.prog 49 = some 2 := by kernel_rfl
@[go_sem] theorem T.wid_50 : wid Tryz.prog 50 = some 1 := by kernel_rfl
@[go_sem] theorem T.wid_52 : wid Tryz.prog 52 = some 3 := by kernel_rfl
@[go_sem] theorem T.wid_54 : wid Tryz.prog 54 = some 4 := by kernel_rfl
@[go_sem] theorem T.wid_55 : wid Tryz.prog 55 = some 1 := by kernel_rfl
@[go_sem] theorem T.wid_57 : wid Tryz.prog 57 = some 7 := by kernel_rfl
@[go_sem] theorem T.wid_118 : wid Tryz.prog 118 = some 1 := by kernel_rfl
@[go_sem] theorem T.wid_140 : wid Tryz.prog 140 = some 2 := by kernel_rfl
@[go_sem] theorem T.zr_25 : zr Tryz.prog 25 = some [.string ⟨#[]⟩, .slice none 0 0] := by kernel_rfl
@[go_sem] theorem T.zr_35 : zr Tryz.prog 35 = some [.string ⟨#[]⟩, .slice none 0 0] := by kernel_rfl
@[go_sem] theorem T.zr_49 : zr Tryz.prog 49 = some [.string ⟨#[]⟩, .int .u64 0] := by kernel_rfl
@[go_sem] theorem T.zr_52 : zr Tryz.prog 52 = some [.slice none 0 0, .bool false, .string ⟨#[]⟩] := by kernel_rfl
@[go_sem] theorem T.zr_54 : zr Tryz.prog 54 = some [.slice none 0 0, .bool false, .string ⟨#[]⟩, .int .u64 0] := by kernel_rfl
@[go_sem] theorem T.zr_57 : zr Tryz.prog 57 = some [.slice none 0 0, .bool false, .string ⟨#[]⟩, .int .u64 0, .slice none 0 0, .bool false, .string ⟨#[]⟩] := by kernel_rfl
@[go_sem] theorem T.zr_140 : zr Tryz.prog 140 = some [.string ⟨#[]⟩, .string ⟨#[]⟩] := by kernel_rfl
end Go.AW
