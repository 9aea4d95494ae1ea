/-
  The types of the program, as far as its functions look at them: shapes, places, zero cells.
-/
import Derived.Test.YtbjdiepceokmkaaMb
import Derived.Test.YtbjdiepceokmkaaRows
import Derived.KernelRfl
namespace Go.AW
open Go Go.Proofs

theorem T.mixed : Try.prog.follows .mixedOrders = true := by kernel_rfl
@[go_sem] theorem T.eqT_35 : eqT Try.prog 35 = some [.s, .s] := by kernel_rfl
@[go_sem] theorem T.eqT_40 : eqT Try.prog 40 = some [.s, .i] := by kernel_rfl
@[go_sem] theorem T.fldOff_24_0 : fldOff Try.prog 24 0 = some 0 := by kernel_rfl
@[go_sem] theorem T.fldOff_24_1 : fldOff Try.prog 24 1 = some 1 := by kernel_rfl
@[go_sem] theorem T.fldOff_35_0 : fldOff Try.prog 35 0 = some 0 := by kernel_rfl
@[go_sem] theorem T.fldOff_35_1 : fldOff Try.prog 35 1 = some 1 := by kernel_rfl
@[go_sem] theorem T.fldOff_40_0 : fldOff Try.prog 40 0 = some 0 := by kernel_rfl
@[go_sem] theorem T.fldOff_40_1 : fldOff Try.prog 40 1 = some 1 := by kernel_rfl
@[go_sem] theorem T.fldOff_42_0 : fldOff Try.prog 42 0 = some 0 := by kernel_rfl
@[go_sem] theorem T.fldOff_42_1 : fldOff Try.prog 42 1 = some 1 := by kernel_rfl
@[go_sem] theorem T.fldOff_42_2 : fldOff Try.prog 42 2 = some 2 := by kernel_rfl
@[go_sem] theorem T.fldOff_44_0 : fldOff Try.prog 44 0 = some 0 := by kernel_rfl
@[go_sem] theorem T.fldOff_44_1 : fldOff Try.prog 44 1 = some 4 := by kernel_rfl
@[go_sem] theorem T.fldOff_44_2 : fldOff Try.prog 44 2 = some 5 := by kernel_rfl
@[go_sem] theorem T.fldOff_44_3 : fldOff Try.prog 44 3 = some 6 := by kernel_rfl
@[go_sem] theorem T.fldOff_58_0 : fldOff Try.prog 58 0 = some 0 := by kernel_rfl
@[go_sem] theorem T.fldOff_58_1 : fldOff Try.prog 58 1 = some 1 := by kernel_rfl
@[go_sem] theorem T.fldOff_70_0 : fldOff Try.prog 70 0 = some 0 := by kernel_rfl
@[go_sem] theorem T.fldOff_70_1 : fldOff Try.prog 70 1 = some 1 := by kernel_rfl
@[go_sem] theorem T.fldOff_70_2 : fldOff Try.prog 70 2 = some 2 := by kernel_rfl
@[go_sem] theorem T.fldOff_84_0 : fldOff Try.prog 84 0 = some 0 := by kernel_rfl
@[go_sem] theorem T.fldOff_84_1 : fldOff Try.prog 84 1 = some 1 := by kernel_rfl
@[go_sem] theorem T.fldOff_84_2 : fldOff Try.prog 84 2 = some 2 := by kernel_rfl
@[go_sem] theorem T.fldOff_114_0 : fldOff Try.prog 114 0 = some 0 := by kernel_rfl
@[go_sem] theorem T.fldOff_114_1 : fldOff Try.prog 114 1 = some 1 := by kernel_rfl
@[go_sem] theorem T.fldOff_114_2 : fldOff Try.prog 114 2 = some 2 := by kernel_rfl
@[go_sem] theorem T.fldOff_140_0 : fldOff Try.prog 140 0 = some 0 := by kernel_rfl
@[go_sem] theorem T.fldOff_140_1 : fldOff Try.prog 140 1 = some 1 := by kernel_rfl
@[go_sem] theorem T.fldOff_140_2 : fldOff Try.prog 140 2 = some 2 := by kernel_rfl
@[go_sem] theorem T.intT_3 : intT Try.prog 3 = some .i64 := by kernel_rfl
@[go_sem] theorem T.intT_5 : intT Try.prog 5 = some .u8 := by kernel_rfl
@[go_sem] theorem T.intT_38 : intT Try.prog 38 = some .u64 := by kernel_rfl
@[go_sem] theorem T.intT_167 : intT Try.prog 167 = some .u64 := by kernel_rfl
@[go_sem] theorem T.isB_4 : isB Try.prog 4 = true := by kernel_rfl
@[go_sem] theorem T.isK_3 : isK Try.prog 3 = true := by kernel_rfl
@[go_sem] theorem T.isK_5 : isK Try.prog 5 = true := by kernel_rfl
@[go_sem] theorem T.isK_33 : isK Try.prog 33 = true := by kernel_rfl
@[go_sem] theorem T.isK_38 : isK Try.prog 38 = true := by kernel_rfl
@[go_sem] theorem T.isK_167 : isK Try.prog 167 = true := by kernel_rfl
@[go_sem] theorem T.isP_60 : isP Try.prog 60 = true := by kernel_rfl
@[go_sem] theorem T.isP_100 : isP Try.prog 100 = true := by kernel_rfl
@[go_sem] theorem T.isS_9 : isS Try.prog 9 = true := by kernel_rfl
@[go_sem] theorem T.plc_24 : plc Try.prog 24 = some ([.string ⟨#[]⟩, .slice none 0 0], [(0, 1), (1, 1)]) := by kernel_rfl
@[go_sem] theorem T.plc_35 : plc Try.prog 35 = some ([.string ⟨#[]⟩, .string ⟨#[]⟩], [(0, 1), (1, 1)]) := by kernel_rfl
@[go_sem] theorem T.plc_40 : plc Try.prog 40 = some ([.string ⟨#[]⟩, .int .u64 0], [(0, 1), (1, 1)]) := by kernel_rfl
@[go_sem] theorem T.plc_42 : plc Try.prog 42 = some ([.slice none 0 0, .bool false, .string ⟨#[]⟩, .int .u64 0], [(0, 1), (1, 1), (2, 2)]) := by kernel_rfl
@[go_sem] theorem T.plc_44 : plc Try.prog 44 = some ([.slice none 0 0, .bool false, .string ⟨#[]⟩, .int .u64 0, .slice none 0 0, .bool false, .string ⟨#[]⟩], [(0, 4), (4, 1), (5, 1), (6, 1)]) := by kernel_rfl
@[go_sem] theorem T.plc_58 : plc Try.prog 58 = some ([.string ⟨#[]⟩, .slice none 0 0], [(0, 1), (1, 1)]) := by kernel_rfl
@[go_sem] theorem T.plc_70 : plc Try.prog 70 = some ([.string ⟨#[]⟩, .int .i64 0, .int .i64 0], [(0, 1), (1, 1), (2, 1)]) := by kernel_rfl
@[go_sem] theorem T.plc_84 : plc Try.prog 84 = some ([.slice none 0 0, .bool false, .string ⟨#[]⟩], [(0, 1), (1, 1), (2, 1)]) := by kernel_rfl
@[go_sem] theorem T.plc_114 : plc Try.prog 114 = some ([.slice none 0 0, .int .i64 0, .int .i64 0], [(0, 1), (1, 1), (2, 1)]) := by kernel_rfl
@[go_sem] theorem T.plc_140 : plc Try.prog 140 = some ([.string ⟨#[]⟩, .int .i64 0, .int .i64 0], [(0, 1), (1, 1), (2, 1)]) := by kernel_rfl
@[go_sem] theorem T.shp_3 : shp Try.prog 3 = some none := by kernel_rfl
@[go_sem] theorem T.shp_4 : shp Try.prog 4 = some none := by kernel_rfl
@[go_sem] theorem T.shp_5 : shp Try.prog 5 = some none := by kernel_rfl
@[go_sem] theorem T.shp_9 : shp Try.prog 9 = some none := by kernel_rfl
@[go_sem] theorem T.shp_22 : shp Try.prog 22 = some none := by kernel_rfl
@[go_sem] theorem T.shp_24 : shp Try.prog 24 = some (some 2) := by kernel_rfl
@[go_sem] theorem T.shp_28 : shp Try.prog 28 = some none := by kernel_rfl
@[go_sem] theorem T.shp_33 : shp Try.prog 33 = some none := by kernel_rfl
@[go_sem] theorem T.shp_35 : shp Try.prog 35 = some (some 2) := by kernel_rfl
@[go_sem] theorem T.shp_36 : shp Try.prog 36 = some none := by kernel_rfl
@[go_sem] theorem T.shp_37 : shp Try.prog 37 = some none := by kernel_rfl
@[go_sem] theorem T.shp_38 : shp Try.prog 38 = some none := by kernel_rfl
@[go_sem] theorem T.shp_40 : shp Try.prog 40 = some (some 2) := by kernel_rfl
@[go_sem] theorem T.shp_42 : shp Try.prog 42 = some (some 4) := by kernel_rfl
@[go_sem] theorem T.shp_44 : shp Try.prog 44 = some (some 7) := by kernel_rfl
@[go_sem] theorem T.shp_56 : shp Try.prog 56 = some none := by kernel_rfl
@[go_sem] theorem T.shp_58 : shp Try.prog 58 = some (some 2) := by kernel_rfl
@[go_sem] theorem T.shp_84 : shp Try.prog 84 = some (some 3) := by kernel_rfl
@[go_sem] theorem T.sliT_22 : sliT Try.prog 22 = some (84, 3, 48) := by kernel_rfl
@[go_sem] theorem T.sliT_33 : sliT Try.prog 33 = some (5, 1, 1) := by kernel_rfl
@[go_sem] theorem T.sliT_36 : sliT Try.prog 36 = some (35, 2, 32) := by kernel_rfl
@[go_sem] theorem T.sliT_37 : sliT Try.prog 37 = some (40, 2, 24) := by kernel_rfl
@[go_sem] theorem T.sliT_56 : sliT Try.prog 56 = some (44, 7, 104) := by kernel_rfl
@[go_sem] theorem T.sliT_130 : sliT Try.prog 130 = some (9, 1, 16) := by kernel_rfl
@[go_sem] theorem T.sliT_133 : sliT Try.prog 133 = some (37, 1, 24) := by kernel_rfl
@[go_sem] theorem T.sliT_154 : sliT Try.prog 154 = some (38, 1, 8) := by kernel_rfl
@[go_sem] theorem T.sliT_157 : sliT Try.prog 157 = some (42, 4, 56) := by kernel_rfl
@[go_sem] theorem T.wid_3 : wid Try.prog 3 = some 1 := by kernel_rfl
@[go_sem] theorem T.wid_4 : wid Try.prog 4 = some 1 := by kernel_rfl
@[go_sem] theorem T.wid_5 : wid Try.prog 5 = some 1 := by kernel_rfl
@[go_sem] theorem T.wid_9 : wid Try.prog 9 = some 1 := by kernel_rfl
@[go_sem] theorem T.wid_24 : wid Try.prog 24 = some 2 := by kernel_rfl
@[go_sem] theorem T.wid_28 : wid Try.prog 28 = some 1 := by kernel_rfl
@[go_sem] theorem T.wid_33 : wid Try.prog 33 = some 1 := by kernel_rfl
@[go_sem] theorem T.wid_35 : wid Try.prog 35 = some 2 := by kernel_rfl
@[go_sem] theorem T.wid_36 : wid Try.prog 36 = some 1 := by kernel_rfl
@[go_sem] theorem T.wid_37 : wid Try.prog 37 = some 1 := by kernel_rfl
@[go_sem] theorem T.wid_38 : wid Try.prog 38 = some 1 := by kernel_rfl
@[go_sem] theorem T.wid_40 : wid Try.prog 40 = some 2 := by kernel_rfl
@[go_sem] theorem T.wid_42 : wid Try.prog 42 = some 4 := by kernel_rfl
@[go_sem] theorem T.wid_44 : wid Try.prog 44 = some 7 := by kernel_rfl
@[go_sem] theorem T.wid_56 : wid Try.prog 56 = some 1 := by kernel_rfl
@[go_sem] theorem T.wid_58 : wid Try.prog 58 = some 2 := by kernel_rfl
@[go_sem] theorem T.wid_84 : wid Try.prog 84 = some 3 := by kernel_rfl
@[go_sem] theorem T.zr_5 : zr Try.prog 5 = some [.int .u8 0] := by kernel_rfl
@[go_sem] theorem T.zr_24 : zr Try.prog 24 = some [.string ⟨#[]⟩, .slice none 0 0] := by kernel_rfl
@[go_sem] theorem T.zr_35 : zr Try.prog 35 = some [.string ⟨#[]⟩, .string ⟨#[]⟩] := by kernel_rfl
@[go_sem] theorem T.zr_40 : zr Try.prog 40 = some [.string ⟨#[]⟩, .int .u64 0] := by kernel_rfl
@[go_sem] theorem T.zr_42 : zr Try.prog 42 = some [.slice none 0 0, .bool false, .string ⟨#[]⟩, .int .u64 0] := by kernel_rfl
@[go_sem] theorem T.zr_44 : zr Try.prog 44 = some [.slice none 0 0, .bool false, .string ⟨#[]⟩, .int .u64 0, .slice none 0 0, .bool false, .string ⟨#[]⟩] := by kernel_rfl
@[go_sem] theorem T.zr_58 : zr Try.prog 58 = some [.string ⟨#[]⟩, .slice none 0 0] := by kernel_rfl
@[go_sem] theorem T.zr_84 : zr Try.prog 84 = some [.slice none 0 0, .bool false, .string ⟨#[]⟩] := by kernel_rfl
end Go.AW
