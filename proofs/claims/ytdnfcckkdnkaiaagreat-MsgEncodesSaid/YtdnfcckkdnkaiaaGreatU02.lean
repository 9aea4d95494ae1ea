/-
  The types of the program, as far as its functions look at them: shapes, places, zero cells.
-/
import Derived.Test.YtdnfcckkdnkaiaaGreatProg
import Derived.KernelRfl
import Derived.Test.YtdnfcckkdnkaiaaGreatU01
set_option linter.unusedVariables false
set_option linter.unusedSimpArgs false
set_option maxHeartbeats 4000000
set_option maxRecDepth 10000
namespace Go.AW
open Go Go.Proofs
theorem T.mixed:Tryz.prog.follows .mixedOrders=true:=by kernel_rfl
@[go_sem] theorem T.arrS_287:arrS Tryz.prog 287=some 8:=by kernel_rfl
@[go_sem] theorem T.arrT_287:arrT Tryz.prog 287=some (8,1):=by kernel_rfl
@[go_sem] theorem T.eqT_50:eqT Tryz.prog 50=some [.i,.i,.s]:=by kernel_rfl
@[go_sem] theorem T.eqT_69:eqT Tryz.prog 69=some [.s,.i,.i]:=by kernel_rfl
@[go_sem] theorem T.eqT_151:eqT Tryz.prog 151=some [.s,.i]:=by kernel_rfl
@[go_sem] theorem T.eqT_176:eqT Tryz.prog 176=some [.s,.s]:=by kernel_rfl
@[go_sem] theorem T.eqT_178:eqT Tryz.prog 178=some [.s,.s]:=by kernel_rfl
@[go_sem] theorem T.eqT_180:eqT Tryz.prog 180=some [.i,.s]:=by kernel_rfl
@[go_sem] theorem T.fldOff_26_0:fldOff Tryz.prog 26 0=some 0:=by kernel_rfl
@[go_sem] theorem T.fldOff_26_1:fldOff Tryz.prog 26 1=some 1:=by kernel_rfl
@[go_sem] theorem T.fldOff_29_0:fldOff Tryz.prog 29 0=some 0:=by kernel_rfl
@[go_sem] theorem T.fldOff_29_1:fldOff Tryz.prog 29 1=some 1:=by kernel_rfl
@[go_sem] theorem T.fldOff_35_0:fldOff Tryz.prog 35 0=some 0:=by kernel_rfl
@[go_sem] theorem T.fldOff_35_1:fldOff Tryz.prog 35 1=some 1:=by kernel_rfl
@[go_sem] theorem T.fldOff_35_2:fldOff Tryz.prog 35 2=some 2:=by kernel_rfl
@[go_sem] theorem T.fldOff_35_3:fldOff Tryz.prog 35 3=some 3:=by kernel_rfl
@[go_sem] theorem T.fldOff_38_0:fldOff Tryz.prog 38 0=some 0:=by kernel_rfl
@[go_sem] theorem T.fldOff_38_1:fldOff Tryz.prog 38 1=some 1:=by kernel_rfl
@[go_sem] theorem T.fldOff_38_2:fldOff Tryz.prog 38 2=some 2:=by kernel_rfl
@[go_sem] theorem T.fldOff_38_3:fldOff Tryz.prog 38 3=some 3:=by kernel_rfl
@[go_sem] theorem T.fldOff_38_4:fldOff Tryz.prog 38 4=some 4:=by kernel_rfl
@[go_sem] theorem T.fldOff_38_5:fldOff Tryz.prog 38 5=some 6:=by kernel_rfl
@[go_sem] theorem T.fldOff_38_6:fldOff Tryz.prog 38 6=some 8:=by kernel_rfl
@[go_sem] theorem T.fldOff_38_7:fldOff Tryz.prog 38 7=some 9:=by kernel_rfl
@[go_sem] theorem T.fldOff_38_8:fldOff Tryz.prog 38 8=some 10:=by kernel_rfl
@[go_sem] theorem T.fldOff_38_9:fldOff Tryz.prog 38 9=some 11:=by kernel_rfl
@[go_sem] theorem T.fldOff_38_10:fldOff Tryz.prog 38 10=some 12:=by kernel_rfl
@[go_sem] theorem T.fldOff_38_11:fldOff Tryz.prog 38 11=some 13:=by kernel_rfl
@[go_sem] theorem T.fldOff_38_12:fldOff Tryz.prog 38 12=some 17:=by kernel_rfl
@[go_sem] theorem T.fldOff_38_13:fldOff Tryz.prog 38 13=some 18:=by kernel_rfl
@[go_sem] theorem T.fldOff_38_14:fldOff Tryz.prog 38 14=some 19:=by kernel_rfl
@[go_sem] theorem T.fldOff_50_0:fldOff Tryz.prog 50 0=some 0:=by kernel_rfl
@[go_sem] theorem T.fldOff_50_1:fldOff Tryz.prog 50 1=some 1:=by kernel_rfl
@[go_sem] theorem T.fldOff_50_2:fldOff Tryz.prog 50 2=some 2:=by kernel_rfl
@[go_sem] theorem T.fldOff_69_0:fldOff Tryz.prog 69 0=some 0:=by kernel_rfl
@[go_sem] theorem T.fldOff_69_1:fldOff Tryz.prog 69 1=some 1:=by kernel_rfl
@[go_sem] theorem T.fldOff_69_2:fldOff Tryz.prog 69 2=some 2:=by kernel_rfl
@[go_sem] theorem T.fldOff_86_0:fldOff Tryz.prog 86 0=some 0:=by kernel_rfl
@[go_sem] theorem T.fldOff_86_1:fldOff Tryz.prog 86 1=some 1:=by kernel_rfl
@[go_sem] theorem T.fldOff_86_2:fldOff Tryz.prog 86 2=some 2:=by kernel_rfl
@[go_sem] theorem T.fldOff_86_3:fldOff Tryz.prog 86 3=some 3:=by kernel_rfl
@[go_sem] theorem T.fldOff_92_0:fldOff Tryz.prog 92 0=some 0:=by kernel_rfl
@[go_sem] theorem T.fldOff_92_1:fldOff Tryz.prog 92 1=some 1:=by kernel_rfl
@[go_sem] theorem T.fldOff_92_2:fldOff Tryz.prog 92 2=some 2:=by kernel_rfl
@[go_sem] theorem T.fldOff_151_0:fldOff Tryz.prog 151 0=some 0:=by kernel_rfl
@[go_sem] theorem T.fldOff_151_1:fldOff Tryz.prog 151 1=some 1:=by kernel_rfl
@[go_sem] theorem T.fldOff_153_0:fldOff Tryz.prog 153 0=some 0:=by kernel_rfl
@[go_sem] theorem T.fldOff_153_1:fldOff Tryz.prog 153 1=some 1:=by kernel_rfl
@[go_sem] theorem T.fldOff_153_2:fldOff Tryz.prog 153 2=some 2:=by kernel_rfl
@[go_sem] theorem T.fldOff_155_0:fldOff Tryz.prog 155 0=some 0:=by kernel_rfl
@[go_sem] theorem T.fldOff_155_1:fldOff Tryz.prog 155 1=some 4:=by kernel_rfl
@[go_sem] theorem T.fldOff_155_2:fldOff Tryz.prog 155 2=some 5:=by kernel_rfl
@[go_sem] theorem T.fldOff_155_3:fldOff Tryz.prog 155 3=some 6:=by kernel_rfl
@[go_sem] theorem T.fldOff_162_0:fldOff Tryz.prog 162 0=some 0:=by kernel_rfl
@[go_sem] theorem T.fldOff_162_1:fldOff Tryz.prog 162 1=some 1:=by kernel_rfl
@[go_sem] theorem T.fldOff_166_0:fldOff Tryz.prog 166 0=some 0:=by kernel_rfl
@[go_sem] theorem T.fldOff_166_1:fldOff Tryz.prog 166 1=some 1:=by kernel_rfl
@[go_sem] theorem T.fldOff_166_2:fldOff Tryz.prog 166 2=some 2:=by kernel_rfl
@[go_sem] theorem T.fldOff_172_0:fldOff Tryz.prog 172 0=some 0:=by kernel_rfl
@[go_sem] theorem T.fldOff_172_1:fldOff Tryz.prog 172 1=some 1:=by kernel_rfl
@[go_sem] theorem T.fldOff_172_2:fldOff Tryz.prog 172 2=some 2:=by kernel_rfl
@[go_sem] theorem T.fldOff_176_0:fldOff Tryz.prog 176 0=some 0:=by kernel_rfl
@[go_sem] theorem T.fldOff_176_1:fldOff Tryz.prog 176 1=some 1:=by kernel_rfl
@[go_sem] theorem T.fldOff_178_0:fldOff Tryz.prog 178 0=some 0:=by kernel_rfl
@[go_sem] theorem T.fldOff_178_1:fldOff Tryz.prog 178 1=some 1:=by kernel_rfl
@[go_sem] theorem T.fldOff_180_0:fldOff Tryz.prog 180 0=some 0:=by kernel_rfl
@[go_sem] theorem T.fldOff_180_1:fldOff Tryz.prog 180 1=some 1:=by kernel_rfl
@[go_sem] theorem T.fldOff_183_0:fldOff Tryz.prog 183 0=some 0:=by kernel_rfl
@[go_sem] theorem T.fldOff_183_1:fldOff Tryz.prog 183 1=some 1:=by kernel_rfl
@[go_sem] theorem T.fldOff_183_2:fldOff Tryz.prog 183 2=some 2:=by kernel_rfl
@[go_sem] theorem T.fldOff_183_3:fldOff Tryz.prog 183 3=some 3:=by kernel_rfl
@[go_sem] theorem T.fldOff_196_0:fldOff Tryz.prog 196 0=some 0:=by kernel_rfl
@[go_sem] theorem T.fldOff_196_1:fldOff Tryz.prog 196 1=some 1:=by kernel_rfl
@[go_sem] theorem T.fldOff_196_2:fldOff Tryz.prog 196 2=some 2:=by kernel_rfl
@[go_sem] theorem T.fldOff_201_0:fldOff Tryz.prog 201 0=some 0:=by kernel_rfl
@[go_sem] theorem T.fldOff_201_1:fldOff Tryz.prog 201 1=some 1:=by kernel_rfl
@[go_sem] theorem T.fldOff_201_2:fldOff Tryz.prog 201 2=some 2:=by kernel_rfl
@[go_sem] theorem T.intT_3:intT Tryz.prog 3=some .i64:=by kernel_rfl
@[go_sem] theorem T.intT_5:intT Tryz.prog 5=some .u8:=by kernel_rfl
@[go_sem] theorem T.intT_23:intT Tryz.prog 23=some .u64:=by kernel_rfl
@[go_sem] theorem T.isB_4:isB Tryz.prog 4=true:=by kernel_rfl
@[go_sem] theorem T.isK_3:isK Tryz.prog 3=true:=by kernel_rfl
@[go_sem] theorem T.isK_5:isK Tryz.prog 5=true:=by kernel_rfl
@[go_sem] theorem T.isK_23:isK Tryz.prog 23=true:=by kernel_rfl
@[go_sem] theorem T.isK_194:isK Tryz.prog 194=true:=by kernel_rfl
@[go_sem] theorem T.isP_78:isP Tryz.prog 78=true:=by kernel_rfl
@[go_sem] theorem T.isP_114:isP Tryz.prog 114=true:=by kernel_rfl
@[go_sem] theorem T.isS_9:isS Tryz.prog 9=true:=by kernel_rfl
@[go_sem] theorem T.plc_26:plc Tryz.prog 26=some ([.string ⟨#[]⟩,.slice none 0 0],[(0,1),(1,1)]):=by kernel_rfl
@[go_sem] theorem T.plc_29:plc Tryz.prog 29=some ([.string ⟨#[]⟩,.slice none 0 0],[(0,1),(1,1)]):=by kernel_rfl
@[go_sem] theorem T.plc_35:plc Tryz.prog 35=some ([.string ⟨#[]⟩,.bool false,.slice none 0 0,.slice none 0 0],[(0,1),(1,1),(2,1),(3,1)]):=by kernel_rfl
@[go_sem] theorem T.plc_38:plc Tryz.prog 38=some ([.int .u8 0,.int .u64 0,.string ⟨#[]⟩,.bool false,.string ⟨#[]⟩,.slice none 0 0,.string ⟨#[]⟩,.slice none 0 0,.slice none 0 0,.slice none 0 0,.bool false,.string ⟨#[]⟩,.string ⟨#[]⟩,.string ⟨#[]⟩,.bool false,.slice none 0 0,.slice none 0 0,.slice none 0 0,.int .i64 0,.string ⟨#[]⟩],[(0,1),(1,1),(2,1),(3,1),(4,2),(6,2),(8,1),(9,1),(10,1),(11,1),(12,1),(13,4),(17,1),(18,1),(19,1)]):=by kernel_rfl
@[go_sem] theorem T.plc_50:plc Tryz.prog 50=some ([.int .u8 0,.int .u8 0,.string ⟨#[]⟩],[(0,1),(1,1),(2,1)]):=by kernel_rfl
@[go_sem] theorem T.plc_69:plc Tryz.prog 69=some ([.string ⟨#[]⟩,.int .i64 0,.int .i64 0],[(0,1),(1,1),(2,1)]):=by kernel_rfl
@[go_sem] theorem T.plc_86:plc Tryz.prog 86=some ([.nilFunc,.nilFunc,.nilFunc,.nilFunc],[(0,1),(1,1),(2,1),(3,1)]):=by kernel_rfl
@[go_sem] theorem T.plc_92:plc Tryz.prog 92=some ([.string ⟨#[]⟩,.int .i64 0,.int .i64 0],[(0,1),(1,1),(2,1)]):=by kernel_rfl
@[go_sem] theorem T.plc_151:plc Tryz.prog 151=some ([.string ⟨#[]⟩,.int .u64 0],[(0,1),(1,1)]):=by kernel_rfl
@[go_sem] theorem T.plc_153:plc Tryz.prog 153=some ([.slice none 0 0,.bool false,.string ⟨#[]⟩,.int .u64 0],[(0,1),(1,1),(2,2)]):=by kernel_rfl
@[go_sem] theorem T.plc_155:plc Tryz.prog 155=some ([.slice none 0 0,.bool false,.string ⟨#[]⟩,.int .u64 0,.slice none 0 0,.bool false,.string ⟨#[]⟩],[(0,4),(4,1),(5,1),(6,1)]):=by kernel_rfl
@[go_sem] theorem T.plc_162:plc Tryz.prog 162=some ([.string ⟨#[]⟩,.nilFunc],[(0,1),(1,1)]):=by kernel_rfl
@[go_sem] theorem T.plc_166:plc Tryz.prog 166=some ([.string ⟨#[]⟩,.int .i64 0,.int .i64 0],[(0,1),(1,1),(2,1)]):=by kernel_rfl
@[go_sem] theorem T.plc_172:plc Tryz.prog 172=some ([.slice none 0 0,.bool false,.string ⟨#[]⟩],[(0,1),(1,1),(2,1)]):=by kernel_rfl
@[go_sem] theorem T.plc_176:plc Tryz.prog 176=some ([.string ⟨#[]⟩,.string ⟨#[]⟩],[(0,1),(1,1)]):=by kernel_rfl
@[go_sem] theorem T.plc_178:plc Tryz.prog 178=some ([.string ⟨#[]⟩,.string ⟨#[]⟩],[(0,1),(1,1)]):=by kernel_rfl
@[go_sem] theorem T.plc_180:plc Tryz.prog 180=some ([.int .u8 0,.string ⟨#[]⟩],[(0,1),(1,1)]):=by kernel_rfl
@[go_sem] theorem T.plc_196:plc Tryz.prog 196=some ([.slice none 0 0,.int .i64 0,.int .i64 0],[(0,1),(1,1),(2,1)]):=by kernel_rfl
@[go_sem] theorem T.plc_201:plc Tryz.prog 201=some ([.string ⟨#[]⟩,.int .i64 0,.int .i64 0],[(0,1),(1,1),(2,1)]):=by kernel_rfl
@[go_sem] theorem T.shp_3:shp Tryz.prog 3=some none:=by kernel_rfl
@[go_sem] theorem T.shp_4:shp Tryz.prog 4=some none:=by kernel_rfl
@[go_sem] theorem T.shp_5:shp Tryz.prog 5=some none:=by kernel_rfl
@[go_sem] theorem T.shp_9:shp Tryz.prog 9=some none:=by kernel_rfl
@[go_sem] theorem T.shp_23:shp Tryz.prog 23=some none:=by kernel_rfl
@[go_sem] theorem T.shp_24:shp Tryz.prog 24=some none:=by kernel_rfl
@[go_sem] theorem T.shp_26:shp Tryz.prog 26=some (some 2):=by kernel_rfl
@[go_sem] theorem T.shp_27:shp Tryz.prog 27=some none:=by kernel_rfl
@[go_sem] theorem T.shp_29:shp Tryz.prog 29=some (some 2):=by kernel_rfl
@[go_sem] theorem T.shp_30:shp Tryz.prog 30=some none:=by kernel_rfl
@[go_sem] theorem T.shp_31:shp Tryz.prog 31=some none:=by kernel_rfl
@[go_sem] theorem T.shp_32:shp Tryz.prog 32=some none:=by kernel_rfl
@[go_sem] theorem T.shp_33:shp Tryz.prog 33=some none:=by kernel_rfl
@[go_sem] theorem T.shp_35:shp Tryz.prog 35=some (some 4):=by kernel_rfl
@[go_sem] theorem T.shp_36:shp Tryz.prog 36=some none:=by kernel_rfl
@[go_sem] theorem T.shp_38:shp Tryz.prog 38=some (some 20):=by kernel_rfl
@[go_sem] theorem T.shp_39:shp Tryz.prog 39=some none:=by kernel_rfl
@[go_sem] theorem T.shp_50:shp Tryz.prog 50=some (some 3):=by kernel_rfl
@[go_sem] theorem T.shp_69:shp Tryz.prog 69=some (some 3):=by kernel_rfl
@[go_sem] theorem T.shp_81:shp Tryz.prog 81=some none:=by kernel_rfl
@[go_sem] theorem T.shp_82:shp Tryz.prog 82=some none:=by kernel_rfl
@[go_sem] theorem T.shp_83:shp Tryz.prog 83=some none:=by kernel_rfl
@[go_sem] theorem T.shp_84:shp Tryz.prog 84=some none:=by kernel_rfl
@[go_sem] theorem T.shp_86:shp Tryz.prog 86=some (some 4):=by kernel_rfl
@[go_sem] theorem T.shp_151:shp Tryz.prog 151=some (some 2):=by kernel_rfl
@[go_sem] theorem T.shp_153:shp Tryz.prog 153=some (some 4):=by kernel_rfl
@[go_sem] theorem T.shp_155:shp Tryz.prog 155=some (some 7):=by kernel_rfl
@[go_sem] theorem T.shp_160:shp Tryz.prog 160=some none:=by kernel_rfl
@[go_sem] theorem T.shp_162:shp Tryz.prog 162=some (some 2):=by kernel_rfl
@[go_sem] theorem T.shp_172:shp Tryz.prog 172=some (some 3):=by kernel_rfl
@[go_sem] theorem T.shp_176:shp Tryz.prog 176=some (some 2):=by kernel_rfl
@[go_sem] theorem T.shp_178:shp Tryz.prog 178=some (some 2):=by kernel_rfl
@[go_sem] theorem T.shp_180:shp Tryz.prog 180=some (some 2):=by kernel_rfl
@[go_sem] theorem T.shp_181:shp Tryz.prog 181=some none:=by kernel_rfl
@[go_sem] theorem T.shp_183:shp Tryz.prog 183=some (some 4):=by kernel_rfl
@[go_sem] theorem T.shp_188:shp Tryz.prog 188=some none:=by kernel_rfl
@[go_sem] theorem T.shp_191:shp Tryz.prog 191=some none:=by kernel_rfl
@[go_sem] theorem T.shp_194:shp Tryz.prog 194=some none:=by kernel_rfl
@[go_sem] theorem T.shp_287:shp Tryz.prog 287=some (some 8):=by kernel_rfl
@[go_sem] theorem T.sliT_24:sliT Tryz.prog 24=some (155,7,104):=by kernel_rfl
@[go_sem] theorem T.sliT_27:sliT Tryz.prog 27=some (172,3,48):=by kernel_rfl
@[go_sem] theorem T.sliT_30:sliT Tryz.prog 30=some (151,2,24):=by kernel_rfl
@[go_sem] theorem T.sliT_31:sliT Tryz.prog 31=some (176,2,32):=by kernel_rfl
@[go_sem] theorem T.sliT_32:sliT Tryz.prog 32=some (180,2,24):=by kernel_rfl
@[go_sem] theorem T.sliT_33:sliT Tryz.prog 33=some (178,2,32):=by kernel_rfl
@[go_sem] theorem T.sliT_36:sliT Tryz.prog 36=some (183,4,56):=by kernel_rfl
@[go_sem] theorem T.sliT_65:sliT Tryz.prog 65=some (69,3,32):=by kernel_rfl
@[go_sem] theorem T.sliT_66:sliT Tryz.prog 66=some (9,1,16):=by kernel_rfl
@[go_sem] theorem T.sliT_75:sliT Tryz.prog 75=some (86,4,32):=by kernel_rfl
@[go_sem] theorem T.sliT_146:sliT Tryz.prog 146=some (3,1,8):=by kernel_rfl
@[go_sem] theorem T.sliT_159:sliT Tryz.prog 159=some (162,2,24):=by kernel_rfl
@[go_sem] theorem T.sliT_181:sliT Tryz.prog 181=some (23,1,8):=by kernel_rfl
@[go_sem] theorem T.sliT_194:sliT Tryz.prog 194=some (5,1,1):=by kernel_rfl
@[go_sem] theorem T.sliT_270:sliT Tryz.prog 270=some (30,1,24):=by kernel_rfl
@[go_sem] theorem T.sliT_291:sliT Tryz.prog 291=some (153,4,56):=by kernel_rfl
@[go_sem] theorem T.wid_3:wid Tryz.prog 3=some 1:=by kernel_rfl
@[go_sem] theorem T.wid_4:wid Tryz.prog 4=some 1:=by kernel_rfl
@[go_sem] theorem T.wid_5:wid Tryz.prog 5=some 1:=by kernel_rfl
@[go_sem] theorem T.wid_9:wid Tryz.prog 9=some 1:=by kernel_rfl
@[go_sem] theorem T.wid_23:wid Tryz.prog 23=some 1:=by kernel_rfl
@[go_sem] theorem T.wid_24:wid Tryz.prog 24=some 1:=by kernel_rfl
@[go_sem] theorem T.wid_26:wid Tryz.prog 26=some 2:=by kernel_rfl
@[go_sem] theorem T.wid_27:wid Tryz.prog 27=some 1:=by kernel_rfl
@[go_sem] theorem T.wid_29:wid Tryz.prog 29=some 2:=by kernel_rfl
@[go_sem] theorem T.wid_30:wid Tryz.prog 30=some 1:=by kernel_rfl
@[go_sem] theorem T.wid_31:wid Tryz.prog 31=some 1:=by kernel_rfl
@[go_sem] theorem T.wid_32:wid Tryz.prog 32=some 1:=by kernel_rfl
@[go_sem] theorem T.wid_33:wid Tryz.prog 33=some 1:=by kernel_rfl
@[go_sem] theorem T.wid_35:wid Tryz.prog 35=some 4:=by kernel_rfl
@[go_sem] theorem T.wid_36:wid Tryz.prog 36=some 1:=by kernel_rfl
@[go_sem] theorem T.wid_38:wid Tryz.prog 38=some 20:=by kernel_rfl
@[go_sem] theorem T.wid_39:wid Tryz.prog 39=some 1:=by kernel_rfl
@[go_sem] theorem T.wid_50:wid Tryz.prog 50=some 3:=by kernel_rfl
@[go_sem] theorem T.wid_69:wid Tryz.prog 69=some 3:=by kernel_rfl
@[go_sem] theorem T.wid_86:wid Tryz.prog 86=some 4:=by kernel_rfl
@[go_sem] theorem T.wid_151:wid Tryz.prog 151=some 2:=by kernel_rfl
@[go_sem] theorem T.wid_153:wid Tryz.prog 153=some 4:=by kernel_rfl
@[go_sem] theorem T.wid_155:wid Tryz.prog 155=some 7:=by kernel_rfl
@[go_sem] theorem T.wid_162:wid Tryz.prog 162=some 2:=by kernel_rfl
@[go_sem] theorem T.wid_172:wid Tryz.prog 172=some 3:=by kernel_rfl
@[go_sem] theorem T.wid_176:wid Tryz.prog 176=some 2:=by kernel_rfl
@[go_sem] theorem T.wid_178:wid Tryz.prog 178=some 2:=by kernel_rfl
@[go_sem] theorem T.wid_180:wid Tryz.prog 180=some 2:=by kernel_rfl
@[go_sem] theorem T.wid_181:wid Tryz.prog 181=some 1:=by kernel_rfl
@[go_sem] theorem T.wid_183:wid Tryz.prog 183=some 4:=by kernel_rfl
@[go_sem] theorem T.wid_194:wid Tryz.prog 194=some 1:=by kernel_rfl
@[go_sem] theorem T.zr_26:zr Tryz.prog 26=some [.string ⟨#[]⟩,.slice none 0 0]:=by kernel_rfl
@[go_sem] theorem T.zr_29:zr Tryz.prog 29=some [.string ⟨#[]⟩,.slice none 0 0]:=by kernel_rfl
@[go_sem] theorem T.zr_35:zr Tryz.prog 35=some [.string ⟨#[]⟩,.bool false,.slice none 0 0,.slice none 0 0]:=by kernel_rfl
@[go_sem] theorem T.zr_38:zr Tryz.prog 38=some [.int .u8 0,.int .u64 0,.string ⟨#[]⟩,.bool false,.string ⟨#[]⟩,.slice none 0 0,.string ⟨#[]⟩,.slice none 0 0,.slice none 0 0,.slice none 0 0,.bool false,.string ⟨#[]⟩,.string ⟨#[]⟩,.string ⟨#[]⟩,.bool false,.slice none 0 0,.slice none 0 0,.slice none 0 0,.int .i64 0,.string ⟨#[]⟩]:=by kernel_rfl
@[go_sem] theorem T.zr_50:zr Tryz.prog 50=some [.int .u8 0,.int .u8 0,.string ⟨#[]⟩]:=by kernel_rfl
@[go_sem] theorem T.zr_69:zr Tryz.prog 69=some [.string ⟨#[]⟩,.int .i64 0,.int .i64 0]:=by kernel_rfl
@[go_sem] theorem T.zr_86:zr Tryz.prog 86=some [.nilFunc,.nilFunc,.nilFunc,.nilFunc]:=by kernel_rfl
@[go_sem] theorem T.zr_151:zr Tryz.prog 151=some [.string ⟨#[]⟩,.int .u64 0]:=by kernel_rfl
@[go_sem] theorem T.zr_153:zr Tryz.prog 153=some [.slice none 0 0,.bool false,.string ⟨#[]⟩,.int .u64 0]:=by kernel_rfl
@[go_sem] theorem T.zr_155:zr Tryz.prog 155=some [.slice none 0 0,.bool false,.string ⟨#[]⟩,.int .u64 0,.slice none 0 0,.bool false,.string ⟨#[]⟩]:=by kernel_rfl
@[go_sem] theorem T.zr_162:zr Tryz.prog 162=some [.string ⟨#[]⟩,.nilFunc]:=by kernel_rfl
@[go_sem] theorem T.zr_172:zr Tryz.prog 172=some [.slice none 0 0,.bool false,.string ⟨#[]⟩]:=by kernel_rfl
@[go_sem] theorem T.zr_176:zr Tryz.prog 176=some [.string ⟨#[]⟩,.string ⟨#[]⟩]:=by kernel_rfl
@[go_sem] theorem T.zr_178:zr Tryz.prog 178=some [.string ⟨#[]⟩,.string ⟨#[]⟩]:=by kernel_rfl
@[go_sem] theorem T.zr_180:zr Tryz.prog 180=some [.int .u8 0,.string ⟨#[]⟩]:=by kernel_rfl
@[go_sem] theorem T.zr_183:zr Tryz.prog 183=some [.string ⟨#[]⟩,.int .u64 0,.int .u8 0,.slice none 0 0]:=by kernel_rfl
@[go_sem] theorem T.zr_287:zr Tryz.prog 287=some [.int .u8 0,.int .u8 0,.int .u8 0,.int .u8 0,.int .u8 0,.int .u8 0,.int .u8 0,.int .u8 0]:=by kernel_rfl
end Go.AW
namespace Go.AW
open Go
attribute [go_sem] decide_true decide_false eqV V.flat1 flats1 ao ev look cv bin ibin shf sbin eqn onB onI add rdx rdV rdD elems srcOf setAt flat ones V.one Value.oneCell' toDs onesD D.one put dstOk gv nzs nz rens V.ren Ob.ren mrg gm
 fz fzs lts V.lt Ob.lt obsLt tLt keepT resV one1 ent buildCells fillV thenQ blockQ cvd bV bT bC bO List.contains List.elem cond_true cond_false
attribute [go_sem] true_and and_true if_true if_false ite_true ite_false List.drop_zero List.head?_cons exists_eq_left' exists_eq_left exists_eq_right Option.some.injEq Prod.mk.injEq List.length_cons List.length_nil List.getElem?_cons_zero List.getElem?_cons_succ
 List.drop_succ_cons List.take_succ_cons List.take_zero List.map_cons List.map_nil List.nil_append List.cons_append List.append_nil List.set_cons_zero List.set_cons_succ Bool.not_true Bool.not_false Nat.add_zero Nat.zero_add
 Option.map_some Option.map_none forall_const false_and and_false false_or or_false true_or or_true not_true_eq_false not_false_eq_true Bool.true_and Bool.false_and Bool.and_true Bool.and_false bs_size bs_append bs_extract bs_data and_self List.size_toArray Int.toNat_natCast
 bind_pure_comp List.drop_nil List.take_nil List.set_nil Option.isSome_some Option.isSome_none List.getD_cons_zero List.getD_cons_succ Nat.mul_one Nat.one_mul Nat.mul_zero Nat.zero_mul
attribute [go_sem] Nat.reduceEqDiff reduceCtorEq Nat.reduceAdd Nat.reduceMul Int.reduceLE Int.reduceLT Int.reduceToNat Nat.reduceLeDiff Nat.reduceSub Int.reduceAdd Int.reduceMul Int.reduceSub Int.reduceNeg Int.reduceEq Nat.reduceDiv Nat.reduceMod Nat.reduceLT Nat.reduceGT
attribute [go_sem ↓] reduceIte
def bsD(l:List UInt8):List D:=l.map fun b=>.s (.int .u8 b.toNat)
theorem strD_bs(l:List UInt8):strD ⟨l.toArray⟩=bsD l:=rfl
theorem bsD_append(l m:List UInt8):bsD l++bsD m=bsD (l++m):=by simp [bsD]
theorem bsD_length(l:List UInt8):(bsD l).length=l.length:=by simp [bsD]
theorem onesD_bsD(l:List UInt8):onesD (bsD l)=true:=by
 induction l with
 | nil=>rfl
 | cons b l ih=>simp only [bsD,List.map_cons,onesD,D.one,Bool.and_eq_true];exact ⟨rfl,ih⟩
theorem bsD_nums(l:List UInt8):bsD l=(l.map fun b=>(b.toNat:Int)).map fun n=>.s (.int .u8 n):=by simp [bsD]
theorem strOfNums_bs(l:List UInt8):strOfNums (l.map fun b=>(b.toNat:Int))=⟨l.toArray⟩:=by
 simp [strOfNums,Function.comp_def]
theorem strOfNums_one(n:Int):strOfNums [n]=⟨[UInt8.ofNat n.toNat].toArray⟩:=rfl
attribute [go_sem] strD_bs bsD_append bsD_length onesD_bsD strOfNums_bs
theorem wrap_i64{n:Int}(h1:-9223372036854775808≤n)(h2:n≤9223372036854775807):IntKind.wrap .i64 n=n:=by
 simp only [IntKind.wrap,IntKind.bits,IntKind.signed]
 simp
 omega
theorem wrap_u64{n:Int}(h1:0≤n)(h2:n≤18446744073709551615):IntKind.wrap .u64 n=n:=by
 simp only [IntKind.wrap,IntKind.bits,IntKind.signed]
 simp
 omega
theorem wrap_u32{n:Int}(h1:0≤n)(h2:n≤4294967295):IntKind.wrap .u32 n=n:=by
 simp only [IntKind.wrap,IntKind.bits,IntKind.signed]
 simp
 omega
theorem wrap_u8{n:Int}(h1:0≤n)(h2:n≤255):IntKind.wrap .u8 n=n:=by
 simp only [IntKind.wrap,IntKind.bits,IntKind.signed]
 simp
 omega
theorem pick_and(b x:Bool):(if b=true then bv x else bv false)=bv (b&&x):=by cases b<;>rfl
theorem pick_or(b x:Bool):(if b=true then bv true else bv x)=bv (b||x):=by cases b<;>rfl
attribute [go_sem] pick_and pick_or
theorem wrap_bi(b:UInt8):IntKind.wrap .i64 (b.toNat:Int)=b.toNat:=wrap_i64 (by omega) (by have:=b.toNat_lt;omega)
theorem wrap_bu(b:UInt8):IntKind.wrap .u64 (b.toNat:Int)=b.toNat:=wrap_u64 (by omega) (by have:=b.toNat_lt;omega)
theorem wrap_bb(b:UInt8):IntKind.wrap .u8 (b.toNat:Int)=b.toNat:=wrap_u8 (by omega) (by have:=b.toNat_lt;omega)
attribute [go_sem] wrap_i64 wrap_u64 wrap_u32 wrap_u8 wrap_bi wrap_bu wrap_bb
theorem ex_box{t:TypeId}{c:List V}{p:TypeId→List V→Prop}:(∃ T' cs,Ob.box t c=Ob.box T' cs∧p T' cs)↔p t c:=
 ⟨fun ⟨_,_,e,h⟩=>by cases e;exact h,fun h=>⟨_,_,rfl,h⟩⟩
theorem ex_row1{E z n n':Nat}{c:List D}{p:Nat→Nat→List D→List D→Prop}:(∃ E' z' cs ys,Ob.row E z n c=Ob.row E' z' n' cs∧p E' z' cs ys)↔n=n'∧∃ ys,p E z c ys:=
 ⟨fun ⟨_,_,_,_,e,h⟩=>by cases e;exact ⟨rfl,_,h⟩,fun ⟨e,ys,h⟩=>⟨_,_,_,_,by rw [e],h⟩⟩
theorem ex_row2{E E' z z' n n':Nat}{c:List D}{p:List D→Prop}:(∃ cs,Ob.row E z n c=Ob.row E' z' n' cs∧p cs)↔E=E'∧z=z'∧n=n'∧p c:=
 ⟨fun ⟨_,e,h⟩=>by cases e;exact ⟨rfl,rfl,rfl,h⟩,fun ⟨e,e',e'',h⟩=>⟨_,by rw [e,e',e''],h⟩⟩
attribute [go_sem] ex_box ex_row1 ex_row2 exists_and_left and_assoc exists_eq'
section
variable {P : Program} {N k : Nat} {T : Tm} {σ : List Ob} {Q : Ex → Tm → List Ob → Prop} {K : Tm → List Ob → Prop}
theorem thenQ_n(h:K T σ):thenQ K Q .normal T σ:=h
theorem thenQ_r(h:Q .ret T σ):thenQ K Q .ret T σ:=h
theorem thenQ_e{i:Nat}(h:Q (.exit i) T σ):thenQ K Q (.exit i) T σ:=h
theorem blockQ_n{i:Nat}(h:Q .normal T σ):blockQ i Q .normal T σ:=h
theorem blockQ_r{i:Nat}(h:Q .ret T σ):blockQ i Q .ret T σ:=h
theorem blockQ_e{i:Nat}(h:Q .normal T σ):blockQ i Q (.exit i) T σ:=by simp only [blockQ,if_true];exact h
theorem blockQ_o{i j:Nat}(hij:j≠i)(h:Q (.exit j) T σ):blockQ i Q (.exit j) T σ:=by simp only [blockQ,if_neg hij];exact h
theorem AW.seq'{x y:Code}(h:AW P N k x (thenQ (AW P N k y Q) Q) T σ):AW P N k (.seq x y) Q T σ:=
 AW.seq fun K hK=>AW.mono h fun e T σ q=>by cases e<;>first|exact hK _ _ q|exact q
def RetQ(P:Program)(n:Nat)(rs:List ResultVar)(R:V→List Ob→Prop):Ex→Tm→List Ob→Prop
 | .exit _,_,_=>False
 | _,T,σ=>∃ xs m,resV P σ T rs=some xs∧n≤m∧obsLt m (σ.take m)=true∧(fz σ m (one1 xs)).lt m=true∧R (fz σ m (one1 xs)) (σ.take m)
theorem AC.walk{f:FuncId}{fn:Func}{c:Code}{args:List V}{R:V→List Ob→Prop}(hf:P.funcs[f]? = some fn)(hb:fn.body=some c)(hname:fn.name≠ "runtime.NumGoroutine")(hN:args.length≤fn.ntmps)
  (h:AW P fn.ntmps σ.length c (RetQ P σ.length fn.results.toList R) (ent 0 args) σ):AC P f args σ R:=
 AC.intro hf hb hname hN (AW.mono h fun e T σ q=>by cases e<;>first|exact q.elim|exact ⟨trivial,q⟩)
theorem RetQ.r{n:Nat}{rs:List ResultVar}{R:V→List Ob→Prop}(m:Nat){xs:List V}(h1:resV P σ T rs=some xs)(h2:n≤m)(h3:obsLt m (σ.take m)=true)(h4:(fz σ m (one1 xs)).lt m=true)(h5:R (fz σ m (one1 xs)) (σ.take m)) :
 RetQ P n rs R .ret T σ:=⟨xs,m,h1,h2,h3,h4,h5⟩
theorem RetQ.n{n:Nat}{rs:List ResultVar}{R:V→List Ob→Prop}(m:Nat){xs:List V}(h1:resV P σ T rs=some xs)(h2:n≤m)(h3:obsLt m (σ.take m)=true)(h4:(fz σ m (one1 xs)).lt m=true)(h5:R (fz σ m (one1 xs)) (σ.take m)) :
 RetQ P n rs R .normal T σ:=⟨xs,m,h1,h2,h3,h4,h5⟩
theorem AW.rounds{X:Type}{c:Code}(ts:List Nat)(Tf:X→Tm)(σf:X→List Ob)(Pf:X→Prop)(μf:X→Nat)(x0:X)(h0:Pf x0)(hT:keepT T ts=Tf x0)(hσ:σ.take (σf x0).length=σf x0)
  (hk:∀ x,Pf x→k≤(σf x).length) (ho:∀ x,Pf x→obsLt (σf x).length (σf x)=true) (ht:∀ x,Pf x→tLt (σf x).length (Tf x)=true)
  (round:∀ x,Pf x→∀ J:Tm→List Ob→Prop,(∀ x' T' σ',μf x'<μf x→Pf x'→keepT T' ts=Tf x'→σ'.take (σf x').length=σf x'→J T' σ')→AW P N k c (thenQ J Q) (Tf x) (σf x)):AW P N k (.loop c) Q T σ:=by
 refine AW.loop (fun n T σ=>∃ x,μf x=n∧Pf x∧keepT T ts=Tf x∧σ.take (σf x).length=σf x) (μf x0) ⟨x0,rfl,h0,hT,hσ⟩ ?_
 rintro n T σ ⟨x,rfl,hp,hT,hσ⟩ J hJ
 refine AW.forget ts (σf x).length (hk x hp) (by rw [hσ];exact ho x hp) (by rw [hT];exact ht x hp) ?_
 rw [hT,hσ]
 exact round x hp J fun x' T' σ' h1 h2 h3 h4=>hJ (μf x') T' σ' h1 ⟨x',rfl,h2,h3,h4⟩
end
end Go.AW
namespace Go.AW
open Go
section
variable {P : Program} {N k : Nat} {T : Tm} {σ : List Ob}
theorem AOp.cS{T':Tm}{R Qs:V→List Ob→Prop}{f:FuncId}{fv:Operand}{args:Array Operand}{ts:Array TypeId}{ty:TypeId}{pos:String}{af:Array Edge}{gd:Option (Nat × Bool)}{dst:Option Tmp}{fi ca ag:List V}
  (hT:∀ x ∈ (Op.call { callee:=.value fv,args:=args,argTypes:=ts }).operands,ev T x=ev T' x) (hf:ev T fv=.f (.func f) fi ca) (hc:AC P f ag σ Qs) (has:nzs (fi++args.toList.map (ev T)++ca)=ag)
  (h:∀ y obs,Qs y obs→R y obs):AOp P N k ⟨dst,.call { callee:=.value fv,args:=args,argTypes:=ts },ty,pos,af,gd⟩ T' σ R:=by
 have e:args.toList.map (ev T)=args.toList.map (ev T'):=List.map_congr_left fun x hx=>hT x (by simp [Op.operands,Call.operands];exact .inr (by simpa using hx))
 refine AOp.call (by rw [←hT fv (by simp [Op.operands,Call.operands])];exact hf) ?_
 rw [←e,has]
 exact hc.mono h
end
end Go.AW
