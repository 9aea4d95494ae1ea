/-
  The types of the program, as far as its functions look at them: shapes, places, zero cells.
-/
import Derived.Test.YtidkhiomlljfiaaMb
import Derived.Test.YtidkhiomlljfiaaRows
import Derived.KernelRfl
namespace Go.AW
open Go Go.Proofs

theorem T.mixed : Try.prog.follows .mixedOrders = true := by kernel_rfl
@[go_sem] theorem T.arrS_132 : arrS Try.prog 132 = some 8 := by kernel_rfl
@[go_sem] theorem T.arrT_132 : arrT Try.prog 132 = some (8, 1) := by kernel_rfl
@[go_sem] theorem T.fldOff_41_0 : fldOff Try.prog 41 0 = some 0 := by kernel_rfl
@[go_sem] theorem T.fldOff_41_1 : fldOff Try.prog 41 1 = some 1 := by kernel_rfl
@[go_sem] theorem T.fldOff_41_2 : fldOff Try.prog 41 2 = some 2 := by kernel_rfl
@[go_sem] theorem T.fldOff_55_0 : fldOff Try.prog 55 0 = some 0 := by kernel_rfl
@[go_sem] theorem T.fldOff_55_1 : fldOff Try.prog 55 1 = some 1 := by kernel_rfl
@[go_sem] theorem T.fldOff_55_2 : fldOff Try.prog 55 2 = some 2 := by kernel_rfl
@[go_sem] theorem T.fldOff_55_3 : fldOff Try.prog 55 3 = some 3 := by kernel_rfl
@[go_sem] theorem T.fldOff_76_0 : fldOff Try.prog 76 0 = some 0 := by kernel_rfl
@[go_sem] theorem T.fldOff_76_1 : fldOff Try.prog 76 1 = some 1 := by kernel_rfl
@[go_sem] theorem T.fldOff_76_2 : fldOff Try.prog 76 2 = some 2 := by kernel_rfl
@[go_sem] theorem T.fldOff_78_0 : fldOff Try.prog 78 0 = some 0 := by kernel_rfl
@[go_sem] theorem T.fldOff_78_1 : fldOff Try.prog 78 1 = some 1 := by kernel_rfl
@[go_sem] theorem T.fldOff_78_2 : fldOff Try.prog 78 2 = some 2 := by kernel_rfl
@[go_sem] theorem T.fldOff_93_0 : fldOff Try.prog 93 0 = some 0 := by kernel_rfl
@[go_sem] theorem T.fldOff_93_1 : fldOff Try.prog 93 1 = some 1 := by kernel_rfl
@[go_sem] theorem T.fldOff_116_0 : fldOff Try.prog 116 0 = some 0 := by kernel_rfl
@[go_sem] theorem T.fldOff_116_1 : fldOff Try.prog 116 1 = some 1 := by kernel_rfl
@[go_sem] theorem T.fldOff_116_2 : fldOff Try.prog 116 2 = some 2 := by kernel_rfl
@[go_sem] theorem T.intT_3 : intT Try.prog 3 = some .i64 := by kernel_rfl
@[go_sem] theorem T.intT_5 : intT Try.prog 5 = some .u8 := by kernel_rfl
@[go_sem] theorem T.intT_50 : intT Try.prog 50 = some .u64 := by kernel_rfl
@[go_sem] theorem T.intT_133 : intT Try.prog 133 = some .u64 := by kernel_rfl
@[go_sem] theorem T.isB_4 : isB Try.prog 4 = true := by kernel_rfl
@[go_sem] theorem T.isK_3 : isK Try.prog 3 = true := by kernel_rfl
@[go_sem] theorem T.isK_5 : isK Try.prog 5 = true := by kernel_rfl
@[go_sem] theorem T.isK_50 : isK Try.prog 50 = true := by kernel_rfl
@[go_sem] theorem T.isK_114 : isK Try.prog 114 = true := by kernel_rfl
@[go_sem] theorem T.isK_133 : isK Try.prog 133 = true := by kernel_rfl
@[go_sem] theorem T.isP_37 : isP Try.prog 37 = true := by kernel_rfl
@[go_sem] theorem T.isP_83 : isP Try.prog 83 = true := by kernel_rfl
@[go_sem] theorem T.isS_9 : isS Try.prog 9 = true := by kernel_rfl
@[go_sem] theorem T.plc_41 : plc Try.prog 41 = some ([.string ⟨#[]⟩, .int .i64 0, .int .i64 0], [(0, 1), (1, 1), (2, 1)]) := by kernel_rfl
@[go_sem] theorem T.plc_55 : plc Try.prog 55 = some ([.string ⟨#[]⟩, .int .u64 0, .int .u8 0, .slice none 0 0], [(0, 1), (1, 1), (2, 1), (3, 1)]) := by kernel_rfl
@[go_sem] theorem T.plc_76 : plc Try.prog 76 = some ([.string ⟨#[]⟩, .int .i64 0, .int .i64 0], [(0, 1), (1, 1), (2, 1)]) := by kernel_rfl
@[go_sem] theorem T.plc_78 : plc Try.prog 78 = some ([.string ⟨#[]⟩, .int .i64 0, .int .i64 0], [(0, 1), (1, 1), (2, 1)]) := by kernel_rfl
@[go_sem] theorem T.plc_93 : plc Try.prog 93 = some ([.int .u64 0, .string ⟨#[]⟩], [(0, 1), (1, 1)]) := by kernel_rfl
@[go_sem] theorem T.plc_116 : plc Try.prog 116 = some ([.slice none 0 0, .int .i64 0, .int .i64 0], [(0, 1), (1, 1), (2, 1)]) := by kernel_rfl
@[go_sem] theorem T.shp_3 : shp Try.prog 3 = some none := by kernel_rfl
@[go_sem] theorem T.shp_5 : shp Try.prog 5 = some none := by kernel_rfl
@[go_sem] theorem T.shp_9 : shp Try.prog 9 = some none := by kernel_rfl
@[go_sem] theorem T.shp_26 : shp Try.prog 26 = some none := by kernel_rfl
@[go_sem] theorem T.shp_50 : shp Try.prog 50 = some none := by kernel_rfl
@[go_sem] theorem T.shp_51 : shp Try.prog 51 = some none := by kernel_rfl
@[go_sem] theorem T.shp_53 : shp Try.prog 53 = some none := by kernel_rfl
@[go_sem] theorem T.shp_55 : shp Try.prog 55 = some (some 4) := by kernel_rfl
@[go_sem] theorem T.shp_91 : shp Try.prog 91 = some none := by kernel_rfl
@[go_sem] theorem T.shp_93 : shp Try.prog 93 = some (some 2) := by kernel_rfl
@[go_sem] theorem T.shp_114 : shp Try.prog 114 = some none := by kernel_rfl
@[go_sem] theorem T.shp_132 : shp Try.prog 132 = some (some 8) := by kernel_rfl
@[go_sem] theorem T.sliT_22 : sliT Try.prog 22 = some (55, 4, 56) := by kernel_rfl
@[go_sem] theorem T.sliT_51 : sliT Try.prog 51 = some (9, 1, 16) := by kernel_rfl
@[go_sem] theorem T.sliT_53 : sliT Try.prog 53 = some (50, 1, 8) := by kernel_rfl
@[go_sem] theorem T.sliT_91 : sliT Try.prog 91 = some (93, 2, 24) := by kernel_rfl
@[go_sem] theorem T.sliT_114 : sliT Try.prog 114 = some (5, 1, 1) := by kernel_rfl
@[go_sem] theorem T.wid_3 : wid Try.prog 3 = some 1 := by kernel_rfl
@[go_sem] theorem T.wid_5 : wid Try.prog 5 = some 1 := by kernel_rfl
@[go_sem] theorem T.wid_9 : wid Try.prog 9 = some 1 := by kernel_rfl
@[go_sem] theorem T.wid_26 : wid Try.prog 26 = some 1 := by kernel_rfl
@[go_sem] theorem T.wid_50 : wid Try.prog 50 = some 1 := by kernel_rfl
@[go_sem] theorem T.wid_51 : wid Try.prog 51 = some 1 := by kernel_rfl
@[go_sem] theorem T.wid_53 : wid Try.prog 53 = some 1 := by kernel_rfl
@[go_sem] theorem T.wid_55 : wid Try.prog 55 = some 4 := by kernel_rfl
@[go_sem] theorem T.wid_93 : wid Try.prog 93 = some 2 := by kernel_rfl
@[go_sem] theorem T.wid_114 : wid Try.prog 114 = some 1 := by kernel_rfl
@[go_sem] theorem T.zr_51 : zr Try.prog 51 = some [.slice none 0 0] := by kernel_rfl
@[go_sem] theorem T.zr_55 : zr Try.prog 55 = some [.string ⟨#[]⟩, .int .u64 0, .int .u8 0, .slice none 0 0] := by kernel_rfl
@[go_sem] theorem T.zr_93 : zr Try.prog 93 = some [.int .u64 0, .string ⟨#[]⟩] := by kernel_rfl
@[go_sem] theorem T.zr_132 : zr Try.prog 132 = some [.int .u8 0, .int .u8 0, .int .u8 0, .int .u8 0, .int .u8 0, .int .u8 0, .int .u8 0, .int .u8 0] := by kernel_rfl
end Go.AW
