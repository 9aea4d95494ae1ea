/-
  The types of the program, as far as its functions look at them: shapes, places, zero cells.
-/
import Derived.Test.YtdnfcckkdnkaiaaGreatC01
import Derived.Test.YtdnfcckkdnkaiaaGreatProg
import Derived.KernelRfl
set_option linter.unusedVariables false
set_option linter.unusedSimpArgs false
set_option maxHeartbeats 4000000
set_option maxRecDepth 10000
namespace Go.AW
open Go Go.Proofs
theorem T.mixed:Tryz.prog.follows .mixedOrders=true:=by kernel_rfl
@[go_sem] theorem T.arrS_287:arrS Tryz.prog 287=some 8:=by kernel_rfl
@[go_sem] theorem T.arrT_287:arrT Tryz.prog 287=some (8,1):=by kernel_rfl
@[go_sem] theorem T.eqT_50:eqT Tryz.prog 50=some [.i,.i,.s]:=by kernel_rfl
@[go_sem] theorem T.eqT_69:eqT Tryz.prog 69=some [.s,.i,.i]:=by kernel_rfl
@[go_sem] theorem T.eqT_151:eqT Tryz.prog 151=some [.s,.i]:=by kernel_rfl
@[go_sem] theorem T.eqT_176:eqT Tryz.prog 176=some [.s,.s]:=by kernel_rfl
@[go_sem] theorem T.eqT_178:eqT Tryz.prog 178=some [.s,.s]:=by kernel_rfl
@[go_sem] theorem T.eqT_180:eqT Tryz.prog 180=some [.i,.s]:=by kernel_rfl
@[go_sem] theorem T.fldOff_26_0:fldOff Tryz.prog 26 0=some 0:=by kernel_rfl
@[go_sem] theorem T.fldOff_26_1:fldOff Tryz.prog 26 1=some 1:=by kernel_rfl
@[go_sem] theorem T.fldOff_29_0:fldOff Tryz.prog 29 0=some 0:=by kernel_rfl
@[go_sem] theorem T.fldOff_29_1:fldOff Tryz.prog 29 1=some 1:=by kernel_rfl
@[go_sem] theorem T.fldOff_35_0:fldOff Tryz.prog 35 0=some 0:=by kernel_rfl
@[go_sem] theorem T.fldOff_35_1:fldOff Tryz.prog 35 1=some 1:=by kernel_rfl
@[go_sem] theorem T.fldOff_35_2:fldOff Tryz.prog 35 2=some 2:=by kernel_rfl
@[go_sem] theorem T.fldOff_35_3:fldOff Tryz.prog 35 3=some 3:=by kernel_rfl
@[go_sem] theorem T.fldOff_38_0:fldOff Tryz.prog 38 0=some 0:=by kernel_rfl
@[go_sem] theorem T.fldOff_38_1:fldOff Tryz.prog 38 1=some 1:=by kernel_rfl
@[go_sem] theorem T.fldOff_38_2:fldOff Tryz.prog 38 2=some 2:=by kernel_rfl
@[go_sem] theorem T.fldOff_38_3:fldOff Tryz.prog 38 3=some 3:=by kernel_rfl
@[go_sem] theorem T.fldOff_38_4:fldOff Tryz.prog 38 4=some 4:=by kernel_rfl
@[go_sem] theorem T.fldOff_38_5:fldOff Tryz.prog 38 5=some 6:=by kernel_rfl
@[go_sem] theorem T.fldOff_38_6:fldOff Tryz.prog 38 6=some 8:=by kernel_rfl
@[go_sem] theorem T.fldOff_38_7:fldOff Tryz.prog 38 7=some 9:=by kernel_rfl
@[go_sem] theorem T.fldOff_38_8:fldOff Tryz.prog 38 8=some 10:=by kernel_rfl
@[go_sem] theorem T.fldOff_38_9:fldOff Tryz.prog 38 9=some 11:=by kernel_rfl
@[go_sem] theorem T.fldOff_38_10:fldOff Tryz.prog 38 10=some 12:=by kernel_rfl
@[go_sem] theorem T.fldOff_38_11:fldOff Tryz.prog 38 11=some 13:=by kernel_rfl
@[go_sem] theorem T.fldOff_38_12:fldOff Tryz.prog 38 12=some 17:=by kernel_rfl
@[go_sem] theorem T.fldOff_38_13:fldOff Tryz.prog 38 13=some 18:=by kernel_rfl
@[go_sem] theorem T.fldOff_38_14:fldOff Tryz.prog 38 14=some 19:=by kernel_rfl
@[go_sem] theorem T.fldOff_50_0:fldOff Tryz.prog 50 0=some 0:=by kernel_rfl
@[go_sem] theorem T.fldOff_50_1:fldOff Tryz.prog 50 1=some 1:=by kernel_rfl
@[go_sem] theorem T.fldOff_50_2:fldOff Tryz.prog 50 2=some 2:=by kernel_rfl
@[go_sem] theorem T.fldOff_69_0:fldOff Tryz.prog 69 0=some 0:=by kernel_rfl
@[go_sem] theorem T.fldOff_69_1:fldOff Tryz.prog 69 1=some 1:=by kernel_rfl
@[go_sem] theorem T.fldOff_69_2:fldOff Tryz.prog 69 2=some 2:=by kernel_rfl
@[go_sem] theorem T.fldOff_86_0:fldOff Tryz.prog 86 0=some 0:=by kernel_rfl
@[go_sem] theorem T.fldOff_86_1:fldOff Tryz.prog 86 1=some 1:=by kernel_rfl
@[go_sem] theorem T.fldOff_86_2:fldOff Tryz.prog 86 2=some 2:=by kernel_rfl
@[go_sem] theorem T.fldOff_86_3:fldOff Tryz.prog 86 3=some 3:=by kernel_rfl
@[go_sem] theorem T.fldOff_92_0:fldOff Tryz.prog 92 0=some 0:=by kernel_rfl
@[go_sem] theorem T.fldOff_92_1:fldOff Tryz.prog 92 1=some 1:=by kernel_rfl
@[go_sem] theorem T.fldOff_92_2:fldOff Tryz.prog 92 2=some 2:=by kernel_rfl
@[go_sem] theorem T.fldOff_151_0:fldOff Tryz.prog 151 0=some 0:=by kernel_rfl
@[go_sem] theorem T.fldOff_151_1:fldOff Tryz.prog 151 1=some 1:=by kernel_rfl
@[go_sem] theorem T.fldOff_153_0:fldOff Tryz.prog 153 0=some 0:=by kernel_rfl
@[go_sem] theorem T.fldOff_153_1:fldOff Tryz.prog 153 1=some 1:=by kernel_rfl
@[go_sem] theorem T.fldOff_153_2:fldOff Tryz.prog 153 2=some 2:=by kernel_rfl
@[go_sem] theorem T.fldOff_155_0:fldOff Tryz.prog 155 0=some 0:=by kernel_rfl
@[go_sem] theorem T.fldOff_155_1:fldOff Tryz.prog 155 1=some 4:=by kernel_rfl
@[go_sem] theorem T.fldOff_155_2:fldOff Tryz.prog 155 2=some 5:=by kernel_rfl
@[go_sem] theorem T.fldOff_155_3:fldOff Tryz.prog 155 3=some 6:=by kernel_rfl
@[go_sem] theorem T.fldOff_162_0:fldOff Tryz.prog 162 0=some 0:=by kernel_rfl
@[go_sem] theorem T.fldOff_162_1:fldOff Tryz.prog 162 1=some 1:=by kernel_rfl
@[go_sem] theorem T.fldOff_166_0:fldOff Tryz.prog 166 0=some 0:=by kernel_rfl
@[go_sem] theorem T.fldOff_166_1:fldOff Tryz.prog 166 1=some 1:=by kernel_rfl
@[go_sem] theorem T.fldOff_166_2:fldOff Tryz.prog 166 2=some 2:=by kernel_rfl
@[go_sem] theorem T.fldOff_172_0:fldOff Tryz.prog 172 0=some 0:=by kernel_rfl
@[go_sem] theorem T.fldOff_172_1:fldOff Tryz.prog 172 1=some 1:=by kernel_rfl
@[go_sem] theorem T.fldOff_172_2:fldOff Tryz.prog 172 2=some 2:=by kernel_rfl
@[go_sem] theorem T.fldOff_176_0:fldOff Tryz.prog 176 0=some 0:=by kernel_rfl
@[go_sem] theorem T.fldOff_176_1:fldOff Tryz.prog 176 1=some 1:=by kernel_rfl
@[go_sem] theorem T.fldOff_178_0:fldOff Tryz.prog 178 0=some 0:=by kernel_rfl
@[go_sem] theorem T.fldOff_178_1:fldOff Tryz.prog 178 1=some 1:=by kernel_rfl
@[go_sem] theorem T.fldOff_180_0:fldOff Tryz.prog 180 0=some 0:=by kernel_rfl
@[go_sem] theorem T.fldOff_180_1:fldOff Tryz.prog 180 1=some 1:=by kernel_rfl
@[go_sem] theorem T.fldOff_183_0:fldOff Tryz.prog 183 0=some 0:=by kernel_rfl
@[go_sem] theorem T.fldOff_183_1:fldOff Tryz.prog 183 1=some 1:=by kernel_rfl
@[go_sem] theorem T.fldOff_183_2:fldOff Tryz.prog 183 2=some 2:=by kernel_rfl
@[go_sem] theorem T.fldOff_183_3:fldOff Tryz.prog 183 3=some 3:=by kernel_rfl
@[go_sem] theorem T.fldOff_196_0:fldOff Tryz.prog 196 0=some 0:=by kernel_rfl
@[go_sem] theorem T.fldOff_196_1:fldOff Tryz.prog 196 1=some 1:=by kernel_rfl
@[go_sem] theorem T.fldOff_196_2:fldOff Tryz.prog 196 2=some 2:=by kernel_rfl
@[go_sem] theorem T.fldOff_201_0:fldOff Tryz.prog 201 0=some 0:=by kernel_rfl
@[go_sem] theorem T.fldOff_201_1:fldOff Tryz.prog 201 1=some 1:=by kernel_rfl
@[go_sem] theorem T.fldOff_201_2:fldOff Tryz.prog 201 2=some 2:=by kernel_rfl
@[go_sem] theorem T.intT_3:intT Tryz.prog 3=some .i64:=by kernel_rfl
@[go_sem] theorem T.intT_5:intT Tryz.prog 5=some .u8:=by kernel_rfl
@[go_sem] theorem T.intT_23:intT Tryz.prog 23=some .u64:=by kernel_rfl
@[go_sem] theorem T.isB_4:isB Tryz.prog 4=true:=by kernel_rfl
@[go_sem] theorem T.isK_3:isK Tryz.prog 3=true:=by kernel_rfl
@[go_sem] theorem T.isK_5:isK Tryz.prog 5=true:=by kernel_rfl
@[go_sem] theorem T.isK_23:isK Tryz.prog 23=true:=by kernel_rfl
@[go_sem] theorem T.isK_194:isK Tryz.prog 194=true:=by kernel_rfl
@[go_sem] theorem T.isP_78:isP Tryz.prog 78=true:=by kernel_rfl
@[go_sem] theorem T.isP_114:isP Tryz.prog 114=true:=by kernel_rfl
@[go_sem] theorem T.isS_9:isS Tryz.prog 9=true:=by kernel_rfl
@[go_sem] theorem T.plc_26:plc Tryz.prog 26=some ([.string ⟨#[]⟩,.slice none 0 0],[(0,1),(1,1)]):=by kernel_rfl
@[go_sem] theorem T.plc_29:plc Tryz.prog 29=some ([.string ⟨#[]⟩,.slice none 0 0],[(0,1),(1,1)]):=by kernel_rfl
@[go_sem] theorem T.plc_35:plc Tryz.prog 35=some ([.string ⟨#[]⟩,.bool false,.slice none 0 0,.slice none 0 0],[(0,1),(1,1),(2,1),(3,1)]):=by kernel_rfl
@[go_sem] theorem T.plc_38:plc Tryz.prog 38=some ([.int .u8 0,.int .u64 0,.string ⟨#[]⟩,.bool false,.string ⟨#[]⟩,.slice none 0 0,.string ⟨#[]⟩,.slice none 0 0,.slice none 0 0,.slice none 0 0,.bool false,.string ⟨#[]⟩,.string ⟨#[]⟩,.string ⟨#[]⟩,.bool false,.slice none 0 0,.slice none 0 0,.slice none 0 0,.int .i64 0,.string ⟨#[]⟩],[(0,1),(1,1),(2,1),(3,1),(4,2),(6,2),(8,1),(9,1),(10,1),(11,1),(12,1),(13,4),(17,1),(18,1),(19,1)]):=by kernel_rfl
@[go_sem] theorem T.plc_50:plc Tryz.prog 50=some ([.int .u8 0,.int .u8 0,.string ⟨#[]⟩],[(0,1),(1,1),(2,1)]):=by kernel_rfl
@[go_sem] theorem T.plc_69:plc Tryz.prog 69=some ([.string ⟨#[]⟩,.int .i64 0,.int .i64 0],[(0,1),(1,1),(2,1)]):=by kernel_rfl
@[go_sem] theorem T.plc_86:plc Tryz.prog 86=some ([.nilFunc,.nilFunc,.nilFunc,.nilFunc],[(0,1),(1,1),(2,1),(3,1)]):=by kernel_rfl
@[go_sem] theorem T.plc_92:plc Tryz.prog 92=some ([.string ⟨#[]⟩,.int .i64 0,.int .i64 0],[(0,1),(1,1),(2,1)]):=by kernel_rfl
@[go_sem] theorem T.plc_151:plc Tryz.prog 151=some ([.string ⟨#[]⟩,.int .u64 0],[(0,1),(1,1)]):=by kernel_rfl
@[go_sem] theorem T.plc_153:plc Tryz.prog 153=some ([.slice none 0 0,.bool false,.string ⟨#[]⟩,.int .u64 0],[(0,1),(1,1),(2,2)]):=by kernel_rfl
@[go_sem] theorem T.plc_155:plc Tryz.prog 155=some ([.slice none 0 0,.bool false,.string ⟨#[]⟩,.int .u64 0,.slice none 0 0,.bool false,.string ⟨#[]⟩],[(0,4),(4,1),(5,1),(6,1)]):=by kernel_rfl
@[go_sem] theorem T.plc_162:plc Tryz.prog 162=some ([.string ⟨#[]⟩,.nilFunc],[(0,1),(1,1)]):=by kernel_rfl
@[go_sem] theorem T.plc_166:plc Tryz.prog 166=some ([.string ⟨#[]⟩,.int .i64 0,.int .i64 0],[(0,1),(1,1),(2,1)]):=by kernel_rfl
@[go_sem] theorem T.plc_172:plc Tryz.prog 172=some ([.slice none 0 0,.bool false,.string ⟨#[]⟩],[(0,1),(1,1),(2,1)]):=by kernel_rfl
@[go_sem] theorem T.plc_176:plc Tryz.prog 176=some ([.string ⟨#[]⟩,.string ⟨#[]⟩],[(0,1),(1,1)]):=by kernel_rfl
@[go_sem] theorem T.plc_178:plc Tryz.prog 178=some ([.string ⟨#[]⟩,.string ⟨#[]⟩],[(0,1),(1,1)]):=by kernel_rfl
@[go_sem] theorem T.plc_180:plc Tryz.prog 180=some ([.int .u8 0,.string ⟨#[]⟩],[(0,1),(1,1)]):=by kernel_rfl
@[go_sem] theorem T.plc_196:plc Tryz.prog 196=some ([.slice none 0 0,.int .i64 0,.int .i64 0],[(0,1),(1,1),(2,1)]):=by kernel_rfl
@[go_sem] theorem T.plc_201:plc Tryz.prog 201=some ([.string ⟨#[]⟩,.int .i64 0,.int .i64 0],[(0,1),(1,1),(2,1)]):=by kernel_rfl
@[go_sem] theorem T.shp_3:shp Tryz.prog 3=some none:=by kernel_rfl
@[go_sem] theorem T.shp_4:shp Tryz.prog 4=some none:=by kernel_rfl
@[go_sem] theorem T.shp_5:shp Tryz.prog 5=some none:=by kernel_rfl
@[go_sem] theorem T.shp_9:shp Tryz.prog 9=some none:=by kernel_rfl
@[go_sem] theorem T.shp_23:shp Tryz.prog 23=some none:=by kernel_rfl
@[go_sem] theorem T.shp_24:shp Tryz.prog 24=some none:=by kernel_rfl
@[go_sem] theorem T.shp_26:shp Tryz.prog 26=some (some 2):=by kernel_rfl
@[go_sem] theorem T.shp_27:shp Tryz.prog 27=some none:=by kernel_rfl
@[go_sem] theorem T.shp_29:shp Tryz.prog 29=some (some 2):=by kernel_rfl
@[go_sem] theorem T.shp_30:shp Tryz.prog 30=some none:=by kernel_rfl
@[go_sem] theorem T.shp_31:shp Tryz.prog 31=some none:=by kernel_rfl
@[go_sem] theorem T.shp_32:shp Tryz.prog 32=some none:=by kernel_rfl
@[go_sem] theorem T.shp_33:shp Tryz.prog 33=some none:=by kernel_rfl
@[go_sem] theorem T.shp_35:shp Tryz.prog 35=some (some 4):=by kernel_rfl
@[go_sem] theorem T.shp_36:shp Tryz.prog 36=some none:=by kernel_rfl
@[go_sem] theorem T.shp_38:shp Tryz.prog 38=some (some 20):=by kernel_rfl
@[go_sem] theorem T.shp_39:shp Tryz.prog 39=some none:=by kernel_rfl
@[go_sem] theorem T.shp_50:shp Tryz.prog 50=some (some 3):=by kernel_rfl
@[go_sem] theorem T.shp_69:shp Tryz.prog 69=some (some 3):=by kernel_rfl
@[go_sem] theorem T.shp_81:shp Tryz.prog 81=some none:=by kernel_rfl
@[go_sem] theorem T.shp_82:shp Tryz.prog 82=some none:=by kernel_rfl
@[go_sem] theorem T.shp_83:shp Tryz.prog 83=some none:=by kernel_rfl
@[go_sem] theorem T.shp_84:shp Tryz.prog 84=some none:=by kernel_rfl
@[go_sem] theorem T.shp_86:shp Tryz.prog 86=some (some 4):=by kernel_rfl
@[go_sem] theorem T.shp_151:shp Tryz.prog 151=some (some 2):=by kernel_rfl
@[go_sem] theorem T.shp_153:shp Tryz.prog 153=some (some 4):=by kernel_rfl
@[go_sem] theorem T.shp_155:shp Tryz.prog 155=some (some 7):=by kernel_rfl
@[go_sem] theorem T.shp_160:shp Tryz.prog 160=some none:=by kernel_rfl
@[go_sem] theorem T.shp_162:shp Tryz.prog 162=some (some 2):=by kernel_rfl
@[go_sem] theorem T.shp_172:shp Tryz.prog 172=some (some 3):=by kernel_rfl
@[go_sem] theorem T.shp_176:shp Tryz.prog 176=some (some 2):=by kernel_rfl
@[go_sem] theorem T.shp_178:shp Tryz.prog 178=some (some 2):=by kernel_rfl
@[go_sem] theorem T.shp_180:shp Tryz.prog 180=some (some 2):=by kernel_rfl
@[go_sem] theorem T.shp_181:shp Tryz.prog 181=some none:=by kernel_rfl
@[go_sem] theorem T.shp_183:shp Tryz.prog 183=some (some 4):=by kernel_rfl
@[go_sem] theorem T.shp_188:shp Tryz.prog 188=some none:=by kernel_rfl
@[go_sem] theorem T.shp_191:shp Tryz.prog 191=some none:=by kernel_rfl
@[go_sem] theorem T.shp_194:shp Tryz.prog 194=some none:=by kernel_rfl
@[go_sem] theorem T.shp_287:shp Tryz.prog 287=some (some 8):=by kernel_rfl
@[go_sem] theorem T.sliT_24:sliT Tryz.prog 24=some (155,7,104):=by kernel_rfl
@[go_sem] theorem T.sliT_27:sliT Tryz.prog 27=some (172,3,48):=by kernel_rfl
@[go_sem] theorem T.sliT_30:sliT Tryz.prog 30=some (151,2,24):=by kernel_rfl
@[go_sem] theorem T.sliT_31:sliT Tryz.prog 31=some (176,2,32):=by kernel_rfl
@[go_sem] theorem T.sliT_32:sliT Tryz.prog 32=some (180,2,24):=by kernel_rfl
@[go_sem] theorem T.sliT_33:sliT Tryz.prog 33=some (178,2,32):=by kernel_rfl
@[go_sem] theorem T.sliT_36:sliT Tryz.prog 36=some (183,4,56):=by kernel_rfl
@[go_sem] theorem T.sliT_65:sliT Tryz.prog 65=some (69,3,32):=by kernel_rfl
@[go_sem] theorem T.sliT_66:sliT Tryz.prog 66=some (9,1,16):=by kernel_rfl
@[go_sem] theorem T.sliT_75:sliT Tryz.prog 75=some (86,4,32):=by kernel_rfl
@[go_sem] theorem T.sliT_146:sliT Tryz.prog 146=some (3,1,8):=by kernel_rfl
@[go_sem] theorem T.sliT_159:sliT Tryz.prog 159=some (162,2,24):=by kernel_rfl
@[go_sem] theorem T.sliT_181:sliT Tryz.prog 181=some (23,1,8):=by kernel_rfl
@[go_sem] theorem T.sliT_194:sliT Tryz.prog 194=some (5,1,1):=by kernel_rfl
@[go_sem] theorem T.sliT_270:sliT Tryz.prog 270=some (30,1,24):=by kernel_rfl
@[go_sem] theorem T.sliT_291:sliT Tryz.prog 291=some (153,4,56):=by kernel_rfl
@[go_sem] theorem T.wid_3:wid Tryz.prog 3=some 1:=by kernel_rfl
@[go_sem] theorem T.wid_4:wid Tryz.prog 4=some 1:=by kernel_rfl
@[go_sem] theorem T.wid_5:wid Tryz.prog 5=some 1:=by kernel_rfl
@[go_sem] theorem T.wid_9:wid Tryz.prog 9=some 1:=by kernel_rfl
@[go_sem] theorem T.wid_23:wid Tryz.prog 23=some 1:=by kernel_rfl
@[go_sem] theorem T.wid_24:wid Tryz.prog 24=some 1:=by kernel_rfl
@[go_sem] theorem T.wid_26:wid Tryz.prog 26=some 2:=by kernel_rfl
@[go_sem] theorem T.wid_27:wid Tryz.prog 27=some 1:=by kernel_rfl
@[go_sem] theorem T.wid_29:wid Tryz.prog 29=some 2:=by kernel_rfl
@[go_sem] theorem T.wid_30:wid Tryz.prog 30=some 1:=by kernel_rfl
@[go_sem] theorem T.wid_31:wid Tryz.prog 31=some 1:=by kernel_rfl
@[go_sem] theorem T.wid_32:wid Tryz.prog 32=some 1:=by kernel_rfl
@[go_sem] theorem T.wid_33:wid Tryz.prog 33=some 1:=by kernel_rfl
@[go_sem] theorem T.wid_35:wid Tryz.prog 35=some 4:=by kernel_rfl
@[go_sem] theorem T.wid_36:wid Tryz.prog 36=some 1:=by kernel_rfl
@[go_sem] theorem T.wid_38:wid Tryz.prog 38=some 20:=by kernel_rfl
@[go_sem] theorem T.wid_39:wid Tryz.prog 39=some 1:=by kernel_rfl
@[go_sem] theorem T.wid_50:wid Tryz.prog 50=some 3:=by kernel_rfl
@[go_sem] theorem T.wid_69:wid Tryz.prog 69=some 3:=by kernel_rfl
@[go_sem] theorem T.wid_86:wid Tryz.prog 86=some 4:=by kernel_rfl
@[go_sem] theorem T.wid_151:wid Tryz.prog 151=some 2:=by kernel_rfl
@[go_sem] theorem T.wid_153:wid Tryz.prog 153=some 4:=by kernel_rfl
@[go_sem] theorem T.wid_155:wid Tryz.prog 155=some 7:=by kernel_rfl
@[go_sem] theorem T.wid_162:wid Tryz.prog 162=some 2:=by kernel_rfl
@[go_sem] theorem T.wid_172:wid Tryz.prog 172=some 3:=by kernel_rfl
@[go_sem] theorem T.wid_176:wid Tryz.prog 176=some 2:=by kernel_rfl
@[go_sem] theorem T.wid_178:wid Tryz.prog 178=some 2:=by kernel_rfl
@[go_sem] theorem T.wid_180:wid Tryz.prog 180=some 2:=by kernel_rfl
@[go_sem] theorem T.wid_181:wid Tryz.prog 181=some 1:=by kernel_rfl
@[go_sem] theorem T.wid_183:wid Tryz.prog 183=some 4:=by kernel_rfl
@[go_sem] theorem T.wid_194:wid Tryz.prog 194=some 1:=by kernel_rfl
@[go_sem] theorem T.zr_26:zr Tryz.prog 26=some [.string ⟨#[]⟩,.slice none 0 0]:=by kernel_rfl
@[go_sem] theorem T.zr_29:zr Tryz.prog 29=some [.string ⟨#[]⟩,.slice none 0 0]:=by kernel_rfl
@[go_sem] theorem T.zr_35:zr Tryz.prog 35=some [.string ⟨#[]⟩,.bool false,.slice none 0 0,.slice none 0 0]:=by kernel_rfl
@[go_sem] theorem T.zr_38:zr Tryz.prog 38=some [.int .u8 0,.int .u64 0,.string ⟨#[]⟩,.bool false,.string ⟨#[]⟩,.slice none 0 0,.string ⟨#[]⟩,.slice none 0 0,.slice none 0 0,.slice none 0 0,.bool false,.string ⟨#[]⟩,.string ⟨#[]⟩,.string ⟨#[]⟩,.bool false,.slice none 0 0,.slice none 0 0,.slice none 0 0,.int .i64 0,.string ⟨#[]⟩]:=by kernel_rfl
@[go_sem] theorem T.zr_50:zr Tryz.prog 50=some [.int .u8 0,.int .u8 0,.string ⟨#[]⟩]:=by kernel_rfl
@[go_sem] theorem T.zr_69:zr Tryz.prog 69=some [.string ⟨#[]⟩,.int .i64 0,.int .i64 0]:=by kernel_rfl
@[go_sem] theorem T.zr_86:zr Tryz.prog 86=some [.nilFunc,.nilFunc,.nilFunc,.nilFunc]:=by kernel_rfl
@[go_sem] theorem T.zr_151:zr Tryz.prog 151=some [.string ⟨#[]⟩,.int .u64 0]:=by kernel_rfl
@[go_sem] theorem T.zr_153:zr Tryz.prog 153=some [.slice none 0 0,.bool false,.string ⟨#[]⟩,.int .u64 0]:=by kernel_rfl
@[go_sem] theorem T.zr_155:zr Tryz.prog 155=some [.slice none 0 0,.bool false,.string ⟨#[]⟩,.int .u64 0,.slice none 0 0,.bool false,.string ⟨#[]⟩]:=by kernel_rfl
@[go_sem] theorem T.zr_162:zr Tryz.prog 162=some [.string ⟨#[]⟩,.nilFunc]:=by kernel_rfl
@[go_sem] theorem T.zr_172:zr Tryz.prog 172=some [.slice none 0 0,.bool false,.string ⟨#[]⟩]:=by kernel_rfl
@[go_sem] theorem T.zr_176:zr Tryz.prog 176=some [.string ⟨#[]⟩,.string ⟨#[]⟩]:=by kernel_rfl
@[go_sem] theorem T.zr_178:zr Tryz.prog 178=some [.string ⟨#[]⟩,.string ⟨#[]⟩]:=by kernel_rfl
@[go_sem] theorem T.zr_180:zr Tryz.prog 180=some [.int .u8 0,.string ⟨#[]⟩]:=by kernel_rfl
@[go_sem] theorem T.zr_183:zr Tryz.prog 183=some [.string ⟨#[]⟩,.int .u64 0,.int .u8 0,.slice none 0 0]:=by kernel_rfl
@[go_sem] theorem T.zr_287:zr Tryz.prog 287=some [.int .u8 0,.int .u8 0,.int .u8 0,.int .u8 0,.int .u8 0,.int .u8 0,.int .u8 0,.int .u8 0]:=by kernel_rfl
end Go.AW
