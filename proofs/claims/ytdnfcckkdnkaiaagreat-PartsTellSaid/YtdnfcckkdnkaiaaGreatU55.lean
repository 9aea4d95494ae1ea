/-
  parts: the list of each kind.
-/
import Derived.Test.YtdnfcckkdnkaiaaGreatU54
set_option linter.unusedVariables false
set_option linter.unusedSimpArgs false
set_option maxHeartbeats 4000000
set_option maxRecDepth 10000
namespace Go.AW
open Go Go.Proofs
attribute [local irreducible] thenQ blockQ RetQ AL AW AC AOp
theorem parts_text(nm:List UInt8)(n:Int):AC Tryz.prog 152 [sv (bs nm),iv .i64 n] [] fun y σ=>y=.a [sv (bs nm),.f (.func 241) [] [.p 0 0]]∧σ=[.box 3 [iv .i64 n]]:=by
 refine AC.wk Tryz.func152 ?_
 focus ((repeat' (first|refine G ?_|refine AW.ret ?_|(refine GC ?_ ?_<;>intro h<;>(try simp only [hsB] at h)<;>try exact xf)|(refine GL ?_ ?_<;>intro h<;>(try simp only [hsN] at h)<;>(try simp only [h])<;>(try simp only [hsB] at h)<;>try exact xf)|fail)))
 all_goals first|(((all_goals first|refine RetQ.yr 1 (xs:=[.a [sv (bs nm),.f (.func 241) [] [.p 0 0]]]) ⟨?_,?_⟩|refine RetQ.yn 1 (xs:=[.a [sv (bs nm),.f (.func 241) [] [.p 0 0]]]) ⟨?_,?_⟩);(all_goals exact fx));done)|(exfalso;omega)
theorem parts_flag(nm:List UInt8):AC Tryz.prog 154 [sv (bs nm)] [] fun y σ=>y=.a [sv (bs nm),.f (.func 243) [] []]∧σ=[]:=by
 refine AC.wk Tryz.func154 ?_
 focus ((repeat' (first|refine G ?_|refine AW.ret ?_|(refine GC ?_ ?_<;>intro h<;>(try simp only [hsB] at h)<;>try exact xf)|(refine GL ?_ ?_<;>intro h<;>(try simp only [hsN] at h)<;>(try simp only [h])<;>(try simp only [hsB] at h)<;>try exact xf)|fail)))
 all_goals first|(((all_goals first|refine RetQ.yr 0 (xs:=[.a [sv (bs nm),.f (.func 243) [] []]]) ⟨?_,?_⟩|refine RetQ.yn 0 (xs:=[.a [sv (bs nm),.f (.func 243) [] []]]) ⟨?_,?_⟩);(all_goals exact fx));done)|(exfalso;omega)
theorem parts_key:AC Tryz.prog 153 [] [] fun y σ=>y=.a [sv (bs nKey),.f (.func 242) [] []]∧σ=[]:=by
 refine AC.wk Tryz.func153 ?_
 focus ((repeat' (first|refine G ?_|refine AW.ret ?_|(refine GC ?_ ?_<;>intro h<;>(try simp only [hsB] at h)<;>try exact xf)|(refine GL ?_ ?_<;>intro h<;>(try simp only [hsN] at h)<;>(try simp only [h])<;>(try simp only [hsB] at h)<;>try exact xf)|fail)))
 all_goals first|(((all_goals first|refine RetQ.yr 0 (xs:=[.a [sv (bs nKey),.f (.func 242) [] []]]) ⟨?_,?_⟩|refine RetQ.yn 0 (xs:=[.a [sv (bs nKey),.f (.func 242) [] []]]) ⟨?_,?_⟩);(all_goals exact fx));done)|(exfalso;omega)
theorem list_1(v:Int)(b:Bool):AC Tryz.prog 96 [iv .u8 v,iv .u8 1,bv b] [] fun y σ=>y=.b 3 0 1∧σ=[.box 162 [sv (bs nCtx),.f (.func 150) [] []],.box 3 [iv .i64 65536],.box 162 [sv (bs nObject),.f (.func 241) [] [.p 1 0]],.box 162 [sv (bs nKey),.f (.func 242) [] []]]:=by
 refine AC.wk Tryz.func96 ?_
 (have kk1:=uN [] (parts_text nObject 65536);have kk2:=uN [] parts_key;exact We4)
theorem list_2n(v:Int):AC Tryz.prog 96 [iv .u8 v,iv .u8 2,bv false] [] fun y σ=>y=.b 3 0 1∧σ=[.box 162 [sv (bs nCtx),.f (.func 150) [] []],.box 3 [iv .i64 65536],.box 162 [sv (bs nObject),.f (.func 241) [] [.p 1 0]],.box 162 [sv (bs nFound),.f (.func 243) [] []]]:=by
 refine AC.wk Tryz.func96 ?_
 (have kk1:=uN [] (parts_text nObject 65536);have kk2:=uN [] (parts_flag nFound);exact We4)
theorem list_2f1:AC Tryz.prog 96 [iv .u8 1,iv .u8 2,bv true] [] fun y σ=>y=.g 5 2∧σ=[.box 162 [sv (bs nCtx),.f (.func 150) [] []],.box 3 [iv .i64 65536],.box 162 [sv (bs nOld),.f (.func 241) [] [.p 1 0]],.box 162 [sv (bs nFound),.f (.func 243) [] []],.box 162 [sv (bs nOld),.f (.func 241) [] [.p 1 0]],.box 162 [sv (bs nFound),.f (.func 243) [] [],sv (bs nOld),.f (.func 241) [] [.p 1 0]]]:=by
 refine AC.wk Tryz.func96 ?_
 (have kk1:=uN [] (parts_text nObject 65536);have kk2:=uN [] (parts_flag nFound);exact We6)
theorem list_2f2:AC Tryz.prog 96 [iv .u8 2,iv .u8 2,bv true] [] fun y σ=>y=.g 5 2∧σ=[.box 162 [sv (bs nCtx),.f (.func 150) [] []],.box 3 [iv .i64 65536],.box 162 [sv (bs nObject),.f (.func 241) [] [.p 1 0]],.box 162 [sv (bs nFound),.f (.func 243) [] []],.box 162 [sv (bs nObject),.f (.func 241) [] [.p 1 0]],.box 162 [sv (bs nFound),.f (.func 243) [] [],sv (bs nObject),.f (.func 241) [] [.p 1 0]]]:=by
 refine AC.wk Tryz.func96 ?_
 (have kk1:=uN [] (parts_text nObject 65536);have kk2:=uN [] (parts_flag nFound);exact We6)
theorem list_3(v:Int)(b:Bool):AC Tryz.prog 96 [iv .u8 v,iv .u8 3,bv b] [] fun y σ=>y=.b 4 0 5∧σ=[.box 162 [sv (bs nCtx),.f (.func 150) [] []],.box 3 [iv .i64 65536],.box 162 [sv (bs nObject),.f (.func 241) [] [.p 1 0]],.box 3 [iv .i64 32768],.box 162 [sv (bs nKey),.f (.func 242) [] [],sv (bs nCtx),.f (.func 150) [] [],sv (bs nMeta),.f (.func 155) [] [],sv (bs nDead),.f (.func 243) [] [],sv (bs nValue),.f (.func 241) [] [.p 3 0]]]:=by
 refine AC.wk Tryz.func96 ?_
 (have kk1:=uN [] (parts_text nObject 65536);have kk2:=uN [] parts_key;have kk3:=uN [] (parts_flag nDead);have kk4:=uN [] (parts_text nValue 32768);exact Wf5)
theorem list_4(v:Int)(b:Bool):AC Tryz.prog 96 [iv .u8 v,iv .u8 4,bv b] [] fun y σ=>y=.b 3 0 1∧σ=[.box 162 [sv (bs nCtx),.f (.func 150) [] []],.box 3 [iv .i64 65536],.box 162 [sv (bs nObject),.f (.func 241) [] [.p 1 0]],.box 162 [sv (bs nCtx),.f (.func 150) [] []]]:=by
 refine AC.wk Tryz.func96 ?_
 (have kk1:=uN [] (parts_text nObject 65536);exact We4)
theorem list_5(v:Int)(b:Bool):AC Tryz.prog 96 [iv .u8 v,iv .u8 5,bv b] [] fun y σ=>y=.b 4 0 1∧σ=[.box 162 [sv (bs nCtx),.f (.func 150) [] []],.box 3 [iv .i64 65536],.box 162 [sv (bs nObject),.f (.func 241) [] [.p 1 0]],.box 3 [iv .i64 31],.box 162 [sv (bs nPrefix),.f (.func 241) [] [.p 3 0]]]:=by
 refine AC.wk Tryz.func96 ?_
 (have kk1:=uN [] (parts_text nObject 65536);have kk2:=uN [] (parts_text nPrefix 31);exact We5)
theorem list_6(v:Int)(b:Bool):AC Tryz.prog 96 [iv .u8 v,iv .u8 6,bv b] [] fun y σ=>y=.b 3 0 1∧σ=[.box 162 [sv (bs nCtx),.f (.func 150) [] []],.box 3 [iv .i64 65536],.box 162 [sv (bs nObject),.f (.func 241) [] [.p 1 0]],.box 162 [sv (bs nPage),.f (.func 157) [] []]]:=by
 refine AC.wk Tryz.func96 ?_
 (have kk1:=uN [] (parts_text nObject 65536);exact We4)
theorem list_7(v:Int)(b:Bool):AC Tryz.prog 96 [iv .u8 v,iv .u8 7,bv b] [] fun y σ=>y=.b 3 0 1∧σ=[.box 162 [sv (bs nCtx),.f (.func 150) [] []],.box 3 [iv .i64 65536],.box 162 [sv (bs nObject),.f (.func 241) [] [.p 1 0]],.box 162 [sv (bs nRing),.f (.func 159) [] []]]:=by
 refine AC.wk Tryz.func96 ?_
 (have kk1:=uN [] (parts_text nObject 65536);exact We4)
theorem list_8(v:Int)(b:Bool):AC Tryz.prog 96 [iv .u8 v,iv .u8 8,bv b] [] fun y σ=>y=.b 4 0 2∧σ=[.box 162 [sv (bs nCtx),.f (.func 150) [] []],.box 3 [iv .i64 65536],.box 162 [sv (bs nObject),.f (.func 241) [] [.p 1 0]],.box 3 [iv .i64 64],.box 162 [sv (bs nCode),.f (.func 161) [] [],sv (bs nText),.f (.func 241) [] [.p 3 0]]]:=by
 refine AC.wk Tryz.func96 ?_
 (have kk1:=uN [] (parts_text nObject 65536);have kk2:=uN [] (parts_text nText 64);exact We5)
theorem list_9(v:Int)(b:Bool):AC Tryz.prog 96 [iv .u8 v,iv .u8 9,bv b] [] fun y σ=>y=.b 3 0 1∧σ=[.box 162 [sv (bs nCtx),.f (.func 150) [] []],.box 3 [iv .i64 65536],.box 162 [sv (bs nObject),.f (.func 241) [] [.p 1 0]],.box 162 [sv (bs nObject),.f (.func 241) [] [.p 1 0]]]:=by
 refine AC.wk Tryz.func96 ?_
 (have kk1:=uN [] (parts_text nObject 65536);exact We4)
theorem parts_ok{l:List Prd}(h:∀ x ∈ l,∀ c:Cu,c.Ok→(x.2 c).Ok)(s:List UInt8)(hs:s.length≤140737488351232):(spansr l ⟨s,0,0⟩).2.Ok:=spansr_ok l _ h ⟨hs,Nat.zero_le _⟩
theorem pay_1(v:Nat)(hv:v=1∨v=2)(hh:AC Tryz.prog 93 [iv .u8 (v:Nat),iv .u8 1] [] fun y σ=>y=bv true∧σ=[])(s:List UInt8)(hs:s.length≤140737488351232):AC Tryz.prog 29 [iv .u8 (v:Nat),iv .u8 1,sv (bs s)] [] fun y σ=>y=.t [.d (.l (spansr [(nId,fun c=>(Cu.vtake c).2),(nKey,fun c=>(Cu.okey c).2)] ⟨s,0,0⟩).1.length (spnsD (spansr [(nId,fun c=>(Cu.vtake c).2),(nKey,fun c=>(Cu.okey c).2)] ⟨s,0,0⟩).1)),iv .i64 (spansr [(nId,fun c=>(Cu.vtake c).2),(nKey,fun c=>(Cu.okey c).2)] ⟨s,0,0⟩).2.fin.e]∧σ=[]:=by
 refine AC.wk Tryz.func29 ?_
 have hok0:Cu.Ok ⟨s,0,0⟩:=⟨hs,Nat.zero_le _⟩
 have hnew:=@cursor_New s
 have hvt:=varint_Take s 0 0 hok0
 have ok1:=Cu.vtake_ok hok0
 have hrd:=read_1 ⟨s,0,0⟩ hok0
 have hRok:(spansr [(nId,fun c=>(Cu.vtake c).2),(nKey,fun c=>(Cu.okey c).2)] ⟨s,0,0⟩).2.Ok:=parts_ok (by
  intro x hx c hok
  simp only [List.mem_cons,List.not_mem_nil,or_false] at hx
  rcases hx with rfl|rfl
  ·exact Cu.vtake_ok hok
  ·exact gd_ok (Cu.blob_ok hok)) s hs
 generalize spansr [(nId,fun c=>(Cu.vtake c).2),(nKey,fun c=>(Cu.okey c).2)] ⟨s,0,0⟩=R at *
 obtain ⟨sp,c2⟩:=R
 simp only at hrd hRok ⊢
 have hen:=cursor_End c2.s c2.a c2.e hRok
 rw [show Cu.fin ⟨c2.s,c2.a,c2.e⟩=Cu.fin c2 from rfl] at hen
 generalize Cu.fin c2=d at *
 generalize Cu.vtake ⟨s,0,0⟩=z at *
 obtain ⟨q,c1⟩:=z
 simp only at hvt ok1
 have hfl:=blob_Flag c1.s c1.a c1.e ok1
 rw [show Cu.flag ⟨c1.s,c1.a,c1.e⟩=Cu.flag c1 from rfl] at hfl
 generalize Cu.flag c1=z at *
 obtain ⟨b,c3⟩:=z
 simp only at hfl
 have hli:=list_1 v b
 (have kk1:=uN [] hh;have kk2:=uN [] hnew;have kk3:=uN [0] hvt;have kk4:=uN [0] hfl;have kk5:=uN [] hli;have kk6:=uN [1,7] hrd;have kk7:=uN [1] hen;exact Wd0)
theorem pay_2n(v:Nat)(hv:v=1∨v=2)(hh:AC Tryz.prog 93 [iv .u8 (v:Nat),iv .u8 2] [] fun y σ=>y=bv true∧σ=[])(s:List UInt8)(hs:s.length≤140737488351232)(hf:(Cu.vtake ⟨s,0,0⟩).2.flag.1=false):AC Tryz.prog 29 [iv .u8 (v:Nat),iv .u8 2,sv (bs s)] [] fun y σ=>y=.t [.d (.l (spansr [(nId,fun c=>(Cu.vtake c).2),(nFound,fun c=>(Cu.flag c).2)] ⟨s,0,0⟩).1.length (spnsD (spansr [(nId,fun c=>(Cu.vtake c).2),(nFound,fun c=>(Cu.flag c).2)] ⟨s,0,0⟩).1)),iv .i64 (spansr [(nId,fun c=>(Cu.vtake c).2),(nFound,fun c=>(Cu.flag c).2)] ⟨s,0,0⟩).2.fin.e]∧σ=[]:=by
 refine AC.wk Tryz.func29 ?_
 have hok0:Cu.Ok ⟨s,0,0⟩:=⟨hs,Nat.zero_le _⟩
 have hnew:=@cursor_New s
 have hvt:=varint_Take s 0 0 hok0
 have ok1:=Cu.vtake_ok hok0
 have hrd:=read_2n ⟨s,0,0⟩ hok0
 have hRok:(spansr [(nId,fun c=>(Cu.vtake c).2),(nFound,fun c=>(Cu.flag c).2)] ⟨s,0,0⟩).2.Ok:=parts_ok (by
  intro x hx c hok
  simp only [List.mem_cons,List.not_mem_nil,or_false] at hx
  rcases hx with rfl|rfl
  ·exact Cu.vtake_ok hok
  ·exact Cu.flag_ok hok) s hs
 generalize spansr [(nId,fun c=>(Cu.vtake c).2),(nFound,fun c=>(Cu.flag c).2)] ⟨s,0,0⟩=R at *
 obtain ⟨sp,c2⟩:=R
 simp only at hrd hRok ⊢
 have hen:=cursor_End c2.s c2.a c2.e hRok
 rw [show Cu.fin ⟨c2.s,c2.a,c2.e⟩=Cu.fin c2 from rfl] at hen
 generalize Cu.fin c2=d at *
 generalize Cu.vtake ⟨s,0,0⟩=z at *
 obtain ⟨q,c1⟩:=z
 simp only at hvt ok1 hf
 have hfl:=blob_Flag c1.s c1.a c1.e ok1
 rw [show Cu.flag ⟨c1.s,c1.a,c1.e⟩=Cu.flag c1 from rfl] at hfl
 rw [hf] at hfl
 generalize Cu.flag c1=z at *
 obtain ⟨b,c3⟩:=z
 simp only at hfl hf
 clear hf
 have hli:=list_2n v
 (have kk1:=uN [] hh;have kk2:=uN [] hnew;have kk3:=uN [0] hvt;have kk4:=uN [0] hfl;have kk5:=uN [] hli;have kk6:=uN [1,7] hrd;have kk7:=uN [1] hen;exact Wd0)
theorem pay_2f1(hh:AC Tryz.prog 93 [iv .u8 1,iv .u8 2] [] fun y σ=>y=bv true∧σ=[])(s:List UInt8)(hs:s.length≤140737488351232)(hf:(Cu.vtake ⟨s,0,0⟩).2.flag.1=true):AC Tryz.prog 29 [iv .u8 1,iv .u8 2,sv (bs s)] [] fun y σ=>y=.t [.d (.l (spansr [(nId,fun c=>(Cu.vtake c).2),(nFound,fun c=>(Cu.flag c).2),(nOld,fun c=>(Cu.blob c 65536).2)] ⟨s,0,0⟩).1.length (spnsD (spansr [(nId,fun c=>(Cu.vtake c).2),(nFound,fun c=>(Cu.flag c).2),(nOld,fun c=>(Cu.blob c 65536).2)] ⟨s,0,0⟩).1)),iv .i64 (spansr [(nId,fun c=>(Cu.vtake c).2),(nFound,fun c=>(Cu.flag c).2),(nOld,fun c=>(Cu.blob c 65536).2)] ⟨s,0,0⟩).2.fin.e]∧σ=[]:=by
 refine AC.wk Tryz.func29 ?_
 have hok0:Cu.Ok ⟨s,0,0⟩:=⟨hs,Nat.zero_le _⟩
 have hnew:=@cursor_New s
 have hvt:=varint_Take s 0 0 hok0
 have ok1:=Cu.vtake_ok hok0
 have hrd:=read_2f ⟨s,0,0⟩ hok0 nOld
 have hRok:(spansr [(nId,fun c=>(Cu.vtake c).2),(nFound,fun c=>(Cu.flag c).2),(nOld,fun c=>(Cu.blob c 65536).2)] ⟨s,0,0⟩).2.Ok:=parts_ok (by
  intro x hx c hok
  simp only [List.mem_cons,List.not_mem_nil,or_false] at hx
  rcases hx with rfl|rfl|rfl
  ·exact Cu.vtake_ok hok
  ·exact Cu.flag_ok hok
  ·exact Cu.blob_ok hok) s hs
 generalize spansr [(nId,fun c=>(Cu.vtake c).2),(nFound,fun c=>(Cu.flag c).2),(nOld,fun c=>(Cu.blob c 65536).2)] ⟨s,0,0⟩=R at *
 obtain ⟨sp,c2⟩:=R
 simp only at hrd hRok ⊢
 have hen:=cursor_End c2.s c2.a c2.e hRok
 rw [show Cu.fin ⟨c2.s,c2.a,c2.e⟩=Cu.fin c2 from rfl] at hen
 generalize Cu.fin c2=d at *
 generalize Cu.vtake ⟨s,0,0⟩=z at *
 obtain ⟨q,c1⟩:=z
 simp only at hvt ok1 hf
 have hfl:=blob_Flag c1.s c1.a c1.e ok1
 rw [show Cu.flag ⟨c1.s,c1.a,c1.e⟩=Cu.flag c1 from rfl] at hfl
 rw [hf] at hfl
 generalize Cu.flag c1=z at *
 obtain ⟨b,c3⟩:=z
 simp only at hfl hf
 clear hf
 have hli:=list_2f1
 (have kk1:=uN [] hh;have kk2:=uN [] hnew;have kk3:=uN [0] hvt;have kk4:=uN [0] hfl;have kk5:=uN [] hli;have kk6:=uN [1,4,9] hrd;have kk7:=uN [1] hen;exact Wd0)
theorem pay_2f2(hh:AC Tryz.prog 93 [iv .u8 2,iv .u8 2] [] fun y σ=>y=bv true∧σ=[])(s:List UInt8)(hs:s.length≤140737488351232)(hf:(Cu.vtake ⟨s,0,0⟩).2.flag.1=true):AC Tryz.prog 29 [iv .u8 2,iv .u8 2,sv (bs s)] [] fun y σ=>y=.t [.d (.l (spansr [(nId,fun c=>(Cu.vtake c).2),(nFound,fun c=>(Cu.flag c).2),(nObject,fun c=>(Cu.blob c 65536).2)] ⟨s,0,0⟩).1.length (spnsD (spansr [(nId,fun c=>(Cu.vtake c).2),(nFound,fun c=>(Cu.flag c).2),(nObject,fun c=>(Cu.blob c 65536).2)] ⟨s,0,0⟩).1)),iv .i64 (spansr [(nId,fun c=>(Cu.vtake c).2),(nFound,fun c=>(Cu.flag c).2),(nObject,fun c=>(Cu.blob c 65536).2)] ⟨s,0,0⟩).2.fin.e]∧σ=[]:=by
 refine AC.wk Tryz.func29 ?_
 have hok0:Cu.Ok ⟨s,0,0⟩:=⟨hs,Nat.zero_le _⟩
 have hnew:=@cursor_New s
 have hvt:=varint_Take s 0 0 hok0
 have ok1:=Cu.vtake_ok hok0
 have hrd:=read_2f ⟨s,0,0⟩ hok0 nObject
 have hRok:(spansr [(nId,fun c=>(Cu.vtake c).2),(nFound,fun c=>(Cu.flag c).2),(nObject,fun c=>(Cu.blob c 65536).2)] ⟨s,0,0⟩).2.Ok:=parts_ok (by
  intro x hx c hok
  simp only [List.mem_cons,List.not_mem_nil,or_false] at hx
  rcases hx with rfl|rfl|rfl
  ·exact Cu.vtake_ok hok
  ·exact Cu.flag_ok hok
  ·exact Cu.blob_ok hok) s hs
 generalize spansr [(nId,fun c=>(Cu.vtake c).2),(nFound,fun c=>(Cu.flag c).2),(nObject,fun c=>(Cu.blob c 65536).2)] ⟨s,0,0⟩=R at *
 obtain ⟨sp,c2⟩:=R
 simp only at hrd hRok ⊢
 have hen:=cursor_End c2.s c2.a c2.e hRok
 rw [show Cu.fin ⟨c2.s,c2.a,c2.e⟩=Cu.fin c2 from rfl] at hen
 generalize Cu.fin c2=d at *
 generalize Cu.vtake ⟨s,0,0⟩=z at *
 obtain ⟨q,c1⟩:=z
 simp only at hvt ok1 hf
 have hfl:=blob_Flag c1.s c1.a c1.e ok1
 rw [show Cu.flag ⟨c1.s,c1.a,c1.e⟩=Cu.flag c1 from rfl] at hfl
 rw [hf] at hfl
 generalize Cu.flag c1=z at *
 obtain ⟨b,c3⟩:=z
 simp only at hfl hf
 clear hf
 have hli:=list_2f2
 (have kk1:=uN [] hh;have kk2:=uN [] hnew;have kk3:=uN [0] hvt;have kk4:=uN [0] hfl;have kk5:=uN [] hli;have kk6:=uN [1,4,9] hrd;have kk7:=uN [1] hen;exact Wd0)
theorem pay_3(v:Nat)(hv:v=1∨v=2)(hh:AC Tryz.prog 93 [iv .u8 (v:Nat),iv .u8 3] [] fun y σ=>y=bv true∧σ=[])(s:List UInt8)(hs:s.length≤140737488351232):AC Tryz.prog 29 [iv .u8 (v:Nat),iv .u8 3,sv (bs s)] [] fun y σ=>y=.t [.d (.l (spansr [(nId,fun c=>(Cu.vtake c).2),(nKey,fun c=>(Cu.okey c).2),(nCtx,fun c=>(Cu.vec c).2),(nMeta,fun c=>(Cu.prs c).2),(nDead,fun c=>(Cu.flag c).2),(nValue,fun c=>(Cu.blob c 32768).2)] ⟨s,0,0⟩).1.length (spnsD (spansr [(nId,fun c=>(Cu.vtake c).2),(nKey,fun c=>(Cu.okey c).2),(nCtx,fun c=>(Cu.vec c).2),(nMeta,fun c=>(Cu.prs c).2),(nDead,fun c=>(Cu.flag c).2),(nValue,fun c=>(Cu.blob c 32768).2)] ⟨s,0,0⟩).1)),iv .i64 (spansr [(nId,fun c=>(Cu.vtake c).2),(nKey,fun c=>(Cu.okey c).2),(nCtx,fun c=>(Cu.vec c).2),(nMeta,fun c=>(Cu.prs c).2),(nDead,fun c=>(Cu.flag c).2),(nValue,fun c=>(Cu.blob c 32768).2)] ⟨s,0,0⟩).2.fin.e]∧σ=[]:=by
 refine AC.wk Tryz.func29 ?_
 have hok0:Cu.Ok ⟨s,0,0⟩:=⟨hs,Nat.zero_le _⟩
 have hnew:=@cursor_New s
 have hvt:=varint_Take s 0 0 hok0
 have ok1:=Cu.vtake_ok hok0
 have hrd:=read_3 ⟨s,0,0⟩ hok0
 have hRok:(spansr [(nId,fun c=>(Cu.vtake c).2),(nKey,fun c=>(Cu.okey c).2),(nCtx,fun c=>(Cu.vec c).2),(nMeta,fun c=>(Cu.prs c).2),(nDead,fun c=>(Cu.flag c).2),(nValue,fun c=>(Cu.blob c 32768).2)] ⟨s,0,0⟩).2.Ok:=parts_ok (by
  intro x hx c hok
  simp only [List.mem_cons,List.not_mem_nil,or_false] at hx
  rcases hx with rfl|rfl|rfl|rfl|rfl|rfl
  ·exact Cu.vtake_ok hok
  ·exact gd_ok (Cu.blob_ok hok)
  ·exact Cu.vec_ok hok
  ·exact Cu.prs_ok hok
  ·exact Cu.flag_ok hok
  ·exact Cu.blob_ok hok) s hs
 generalize spansr [(nId,fun c=>(Cu.vtake c).2),(nKey,fun c=>(Cu.okey c).2),(nCtx,fun c=>(Cu.vec c).2),(nMeta,fun c=>(Cu.prs c).2),(nDead,fun c=>(Cu.flag c).2),(nValue,fun c=>(Cu.blob c 32768).2)] ⟨s,0,0⟩=R at *
 obtain ⟨sp,c2⟩:=R
 simp only at hrd hRok ⊢
 have hen:=cursor_End c2.s c2.a c2.e hRok
 rw [show Cu.fin ⟨c2.s,c2.a,c2.e⟩=Cu.fin c2 from rfl] at hen
 generalize Cu.fin c2=d at *
 generalize Cu.vtake ⟨s,0,0⟩=z at *
 obtain ⟨q,c1⟩:=z
 simp only at hvt ok1
 have hfl:=blob_Flag c1.s c1.a c1.e ok1
 rw [show Cu.flag ⟨c1.s,c1.a,c1.e⟩=Cu.flag c1 from rfl] at hfl
 generalize Cu.flag c1=z at *
 obtain ⟨b,c3⟩:=z
 simp only at hfl
 have hli:=list_3 v b
 (have kk1:=uN [] hh;have kk2:=uN [] hnew;have kk3:=uN [0] hvt;have kk4:=uN [0] hfl;have kk5:=uN [] hli;have kk6:=uN [1,6,8] hrd;have kk7:=uN [1] hen;exact Wd0)
theorem pay_4(v:Nat)(hv:v=1∨v=2)(hh:AC Tryz.prog 93 [iv .u8 (v:Nat),iv .u8 4] [] fun y σ=>y=bv true∧σ=[])(s:List UInt8)(hs:s.length≤140737488351232):AC Tryz.prog 29 [iv .u8 (v:Nat),iv .u8 4,sv (bs s)] [] fun y σ=>y=.t [.d (.l (spansr [(nId,fun c=>(Cu.vtake c).2),(nCtx,fun c=>(Cu.vec c).2)] ⟨s,0,0⟩).1.length (spnsD (spansr [(nId,fun c=>(Cu.vtake c).2),(nCtx,fun c=>(Cu.vec c).2)] ⟨s,0,0⟩).1)),iv .i64 (spansr [(nId,fun c=>(Cu.vtake c).2),(nCtx,fun c=>(Cu.vec c).2)] ⟨s,0,0⟩).2.fin.e]∧σ=[]:=by
 refine AC.wk Tryz.func29 ?_
 have hok0:Cu.Ok ⟨s,0,0⟩:=⟨hs,Nat.zero_le _⟩
 have hnew:=@cursor_New s
 have hvt:=varint_Take s 0 0 hok0
 have ok1:=Cu.vtake_ok hok0
 have hrd:=read_4 ⟨s,0,0⟩ hok0
 have hRok:(spansr [(nId,fun c=>(Cu.vtake c).2),(nCtx,fun c=>(Cu.vec c).2)] ⟨s,0,0⟩).2.Ok:=parts_ok (by
  intro x hx c hok
  simp only [List.mem_cons,List.not_mem_nil,or_false] at hx
  rcases hx with rfl|rfl
  ·exact Cu.vtake_ok hok
  ·exact Cu.vec_ok hok) s hs
 generalize spansr [(nId,fun c=>(Cu.vtake c).2),(nCtx,fun c=>(Cu.vec c).2)] ⟨s,0,0⟩=R at *
 obtain ⟨sp,c2⟩:=R
 simp only at hrd hRok ⊢
 have hen:=cursor_End c2.s c2.a c2.e hRok
 rw [show Cu.fin ⟨c2.s,c2.a,c2.e⟩=Cu.fin c2 from rfl] at hen
 generalize Cu.fin c2=d at *
 generalize Cu.vtake ⟨s,0,0⟩=z at *
 obtain ⟨q,c1⟩:=z
 simp only at hvt ok1
 have hfl:=blob_Flag c1.s c1.a c1.e ok1
 rw [show Cu.flag ⟨c1.s,c1.a,c1.e⟩=Cu.flag c1 from rfl] at hfl
 generalize Cu.flag c1=z at *
 obtain ⟨b,c3⟩:=z
 simp only at hfl
 have hli:=list_4 v b
 (have kk1:=uN [] hh;have kk2:=uN [] hnew;have kk3:=uN [0] hvt;have kk4:=uN [0] hfl;have kk5:=uN [] hli;have kk6:=uN [1,7] hrd;have kk7:=uN [1] hen;exact Wd0)
theorem pay_5(v:Nat)(hv:v=1∨v=2)(hh:AC Tryz.prog 93 [iv .u8 (v:Nat),iv .u8 5] [] fun y σ=>y=bv true∧σ=[])(s:List UInt8)(hs:s.length≤140737488351232):AC Tryz.prog 29 [iv .u8 (v:Nat),iv .u8 5,sv (bs s)] [] fun y σ=>y=.t [.d (.l (spansr [(nId,fun c=>(Cu.vtake c).2),(nPrefix,fun c=>(Cu.blob c 31).2)] ⟨s,0,0⟩).1.length (spnsD (spansr [(nId,fun c=>(Cu.vtake c).2),(nPrefix,fun c=>(Cu.blob c 31).2)] ⟨s,0,0⟩).1)),iv .i64 (spansr [(nId,fun c=>(Cu.vtake c).2),(nPrefix,fun c=>(Cu.blob c 31).2)] ⟨s,0,0⟩).2.fin.e]∧σ=[]:=by
 refine AC.wk Tryz.func29 ?_
 have hok0:Cu.Ok ⟨s,0,0⟩:=⟨hs,Nat.zero_le _⟩
 have hnew:=@cursor_New s
 have hvt:=varint_Take s 0 0 hok0
 have ok1:=Cu.vtake_ok hok0
 have hrd:=read_5 ⟨s,0,0⟩ hok0
 have hRok:(spansr [(nId,fun c=>(Cu.vtake c).2),(nPrefix,fun c=>(Cu.blob c 31).2)] ⟨s,0,0⟩).2.Ok:=parts_ok (by
  intro x hx c hok
  simp only [List.mem_cons,List.not_mem_nil,or_false] at hx
  rcases hx with rfl|rfl
  ·exact Cu.vtake_ok hok
  ·exact Cu.blob_ok hok) s hs
 generalize spansr [(nId,fun c=>(Cu.vtake c).2),(nPrefix,fun c=>(Cu.blob c 31).2)] ⟨s,0,0⟩=R at *
 obtain ⟨sp,c2⟩:=R
 simp only at hrd hRok ⊢
 have hen:=cursor_End c2.s c2.a c2.e hRok
 rw [show Cu.fin ⟨c2.s,c2.a,c2.e⟩=Cu.fin c2 from rfl] at hen
 generalize Cu.fin c2=d at *
 generalize Cu.vtake ⟨s,0,0⟩=z at *
 obtain ⟨q,c1⟩:=z
 simp only at hvt ok1
 have hfl:=blob_Flag c1.s c1.a c1.e ok1
 rw [show Cu.flag ⟨c1.s,c1.a,c1.e⟩=Cu.flag c1 from rfl] at hfl
 generalize Cu.flag c1=z at *
 obtain ⟨b,c3⟩:=z
 simp only at hfl
 have hli:=list_5 v b
 (have kk1:=uN [] hh;have kk2:=uN [] hnew;have kk3:=uN [0] hvt;have kk4:=uN [0] hfl;have kk5:=uN [] hli;have kk6:=uN [1,6,8] hrd;have kk7:=uN [1] hen;exact Wd0)
theorem pay_6(v:Nat)(hv:v=1∨v=2)(hh:AC Tryz.prog 93 [iv .u8 (v:Nat),iv .u8 6] [] fun y σ=>y=bv true∧σ=[])(s:List UInt8)(hs:s.length≤140737488351232):AC Tryz.prog 29 [iv .u8 (v:Nat),iv .u8 6,sv (bs s)] [] fun y σ=>y=.t [.d (.l (spansr [(nId,fun c=>(Cu.vtake c).2),(nPage,fun c=>(Cu.page c).2)] ⟨s,0,0⟩).1.length (spnsD (spansr [(nId,fun c=>(Cu.vtake c).2),(nPage,fun c=>(Cu.page c).2)] ⟨s,0,0⟩).1)),iv .i64 (spansr [(nId,fun c=>(Cu.vtake c).2),(nPage,fun c=>(Cu.page c).2)] ⟨s,0,0⟩).2.fin.e]∧σ=[]:=by
 refine AC.wk Tryz.func29 ?_
 have hok0:Cu.Ok ⟨s,0,0⟩:=⟨hs,Nat.zero_le _⟩
 have hnew:=@cursor_New s
 have hvt:=varint_Take s 0 0 hok0
 have ok1:=Cu.vtake_ok hok0
 have hrd:=read_6 ⟨s,0,0⟩ hok0
 have hRok:(spansr [(nId,fun c=>(Cu.vtake c).2),(nPage,fun c=>(Cu.page c).2)] ⟨s,0,0⟩).2.Ok:=parts_ok (by
  intro x hx c hok
  simp only [List.mem_cons,List.not_mem_nil,or_false] at hx
  rcases hx with rfl|rfl
  ·exact Cu.vtake_ok hok
  ·exact Cu.page_ok hok) s hs
 generalize spansr [(nId,fun c=>(Cu.vtake c).2),(nPage,fun c=>(Cu.page c).2)] ⟨s,0,0⟩=R at *
 obtain ⟨sp,c2⟩:=R
 simp only at hrd hRok ⊢
 have hen:=cursor_End c2.s c2.a c2.e hRok
 rw [show Cu.fin ⟨c2.s,c2.a,c2.e⟩=Cu.fin c2 from rfl] at hen
 generalize Cu.fin c2=d at *
 generalize Cu.vtake ⟨s,0,0⟩=z at *
 obtain ⟨q,c1⟩:=z
 simp only at hvt ok1
 have hfl:=blob_Flag c1.s c1.a c1.e ok1
 rw [show Cu.flag ⟨c1.s,c1.a,c1.e⟩=Cu.flag c1 from rfl] at hfl
 generalize Cu.flag c1=z at *
 obtain ⟨b,c3⟩:=z
 simp only at hfl
 have hli:=list_6 v b
 (have kk1:=uN [] hh;have kk2:=uN [] hnew;have kk3:=uN [0] hvt;have kk4:=uN [0] hfl;have kk5:=uN [] hli;have kk6:=uN [1,7] hrd;have kk7:=uN [1] hen;exact Wd0)
theorem pay_7(v:Nat)(hv:v=1∨v=2)(hh:AC Tryz.prog 93 [iv .u8 (v:Nat),iv .u8 7] [] fun y σ=>y=bv true∧σ=[])(s:List UInt8)(hs:s.length≤140737488351232):AC Tryz.prog 29 [iv .u8 (v:Nat),iv .u8 7,sv (bs s)] [] fun y σ=>y=.t [.d (.l (spansr [(nId,fun c=>(Cu.vtake c).2),(nRing,fun c=>(Cu.ring c).2)] ⟨s,0,0⟩).1.length (spnsD (spansr [(nId,fun c=>(Cu.vtake c).2),(nRing,fun c=>(Cu.ring c).2)] ⟨s,0,0⟩).1)),iv .i64 (spansr [(nId,fun c=>(Cu.vtake c).2),(nRing,fun c=>(Cu.ring c).2)] ⟨s,0,0⟩).2.fin.e]∧σ=[]:=by
 refine AC.wk Tryz.func29 ?_
 have hok0:Cu.Ok ⟨s,0,0⟩:=⟨hs,Nat.zero_le _⟩
 have hnew:=@cursor_New s
 have hvt:=varint_Take s 0 0 hok0
 have ok1:=Cu.vtake_ok hok0
 have hrd:=read_7 ⟨s,0,0⟩ hok0
 have hRok:(spansr [(nId,fun c=>(Cu.vtake c).2),(nRing,fun c=>(Cu.ring c).2)] ⟨s,0,0⟩).2.Ok:=parts_ok (by
  intro x hx c hok
  simp only [List.mem_cons,List.not_mem_nil,or_false] at hx
  rcases hx with rfl|rfl
  ·exact Cu.vtake_ok hok
  ·exact Cu.ring_ok hok) s hs
 generalize spansr [(nId,fun c=>(Cu.vtake c).2),(nRing,fun c=>(Cu.ring c).2)] ⟨s,0,0⟩=R at *
 obtain ⟨sp,c2⟩:=R
 simp only at hrd hRok ⊢
 have hen:=cursor_End c2.s c2.a c2.e hRok
 rw [show Cu.fin ⟨c2.s,c2.a,c2.e⟩=Cu.fin c2 from rfl] at hen
 generalize Cu.fin c2=d at *
 generalize Cu.vtake ⟨s,0,0⟩=z at *
 obtain ⟨q,c1⟩:=z
 simp only at hvt ok1
 have hfl:=blob_Flag c1.s c1.a c1.e ok1
 rw [show Cu.flag ⟨c1.s,c1.a,c1.e⟩=Cu.flag c1 from rfl] at hfl
 generalize Cu.flag c1=z at *
 obtain ⟨b,c3⟩:=z
 simp only at hfl
 have hli:=list_7 v b
 (have kk1:=uN [] hh;have kk2:=uN [] hnew;have kk3:=uN [0] hvt;have kk4:=uN [0] hfl;have kk5:=uN [] hli;have kk6:=uN [1,7] hrd;have kk7:=uN [1] hen;exact Wd0)
theorem pay_8(v:Nat)(hv:v=1∨v=2)(hh:AC Tryz.prog 93 [iv .u8 (v:Nat),iv .u8 8] [] fun y σ=>y=bv true∧σ=[])(s:List UInt8)(hs:s.length≤140737488351232):AC Tryz.prog 29 [iv .u8 (v:Nat),iv .u8 8,sv (bs s)] [] fun y σ=>y=.t [.d (.l (spansr [(nId,fun c=>(Cu.vtake c).2),(nCode,fun c=>(Cu.count c 255).2),(nText,fun c=>(Cu.blob c 64).2)] ⟨s,0,0⟩).1.length (spnsD (spansr [(nId,fun c=>(Cu.vtake c).2),(nCode,fun c=>(Cu.count c 255).2),(nText,fun c=>(Cu.blob c 64).2)] ⟨s,0,0⟩).1)),iv .i64 (spansr [(nId,fun c=>(Cu.vtake c).2),(nCode,fun c=>(Cu.count c 255).2),(nText,fun c=>(Cu.blob c 64).2)] ⟨s,0,0⟩).2.fin.e]∧σ=[]:=by
 refine AC.wk Tryz.func29 ?_
 have hok0:Cu.Ok ⟨s,0,0⟩:=⟨hs,Nat.zero_le _⟩
 have hnew:=@cursor_New s
 have hvt:=varint_Take s 0 0 hok0
 have ok1:=Cu.vtake_ok hok0
 have hrd:=read_8 ⟨s,0,0⟩ hok0
 have hRok:(spansr [(nId,fun c=>(Cu.vtake c).2),(nCode,fun c=>(Cu.count c 255).2),(nText,fun c=>(Cu.blob c 64).2)] ⟨s,0,0⟩).2.Ok:=parts_ok (by
  intro x hx c hok
  simp only [List.mem_cons,List.not_mem_nil,or_false] at hx
  rcases hx with rfl|rfl|rfl
  ·exact Cu.vtake_ok hok
  ·exact Cu.count_ok hok
  ·exact Cu.blob_ok hok) s hs
 generalize spansr [(nId,fun c=>(Cu.vtake c).2),(nCode,fun c=>(Cu.count c 255).2),(nText,fun c=>(Cu.blob c 64).2)] ⟨s,0,0⟩=R at *
 obtain ⟨sp,c2⟩:=R
 simp only at hrd hRok ⊢
 have hen:=cursor_End c2.s c2.a c2.e hRok
 rw [show Cu.fin ⟨c2.s,c2.a,c2.e⟩=Cu.fin c2 from rfl] at hen
 generalize Cu.fin c2=d at *
 generalize Cu.vtake ⟨s,0,0⟩=z at *
 obtain ⟨q,c1⟩:=z
 simp only at hvt ok1
 have hfl:=blob_Flag c1.s c1.a c1.e ok1
 rw [show Cu.flag ⟨c1.s,c1.a,c1.e⟩=Cu.flag c1 from rfl] at hfl
 generalize Cu.flag c1=z at *
 obtain ⟨b,c3⟩:=z
 simp only at hfl
 have hli:=list_8 v b
 (have kk1:=uN [] hh;have kk2:=uN [] hnew;have kk3:=uN [0] hvt;have kk4:=uN [0] hfl;have kk5:=uN [] hli;have kk6:=uN [1,6,8] hrd;have kk7:=uN [1] hen;exact Wd0)
theorem pay_9(v:Nat)(hv:v=1∨v=2)(hh:AC Tryz.prog 93 [iv .u8 (v:Nat),iv .u8 9] [] fun y σ=>y=bv true∧σ=[])(s:List UInt8)(hs:s.length≤140737488351232):AC Tryz.prog 29 [iv .u8 (v:Nat),iv .u8 9,sv (bs s)] [] fun y σ=>y=.t [.d (.l (spansr [(nId,fun c=>(Cu.vtake c).2),(nObject,fun c=>(Cu.blob c 65536).2)] ⟨s,0,0⟩).1.length (spnsD (spansr [(nId,fun c=>(Cu.vtake c).2),(nObject,fun c=>(Cu.blob c 65536).2)] ⟨s,0,0⟩).1)),iv .i64 (spansr [(nId,fun c=>(Cu.vtake c).2),(nObject,fun c=>(Cu.blob c 65536).2)] ⟨s,0,0⟩).2.fin.e]∧σ=[]:=by
 refine AC.wk Tryz.func29 ?_
 have hok0:Cu.Ok ⟨s,0,0⟩:=⟨hs,Nat.zero_le _⟩
 have hnew:=@cursor_New s
 have hvt:=varint_Take s 0 0 hok0
 have ok1:=Cu.vtake_ok hok0
 have hrd:=read_9 ⟨s,0,0⟩ hok0
 have hRok:(spansr [(nId,fun c=>(Cu.vtake c).2),(nObject,fun c=>(Cu.blob c 65536).2)] ⟨s,0,0⟩).2.Ok:=parts_ok (by
  intro x hx c hok
  simp only [List.mem_cons,List.not_mem_nil,or_false] at hx
  rcases hx with rfl|rfl
  ·exact Cu.vtake_ok hok
  ·exact Cu.blob_ok hok) s hs
 generalize spansr [(nId,fun c=>(Cu.vtake c).2),(nObject,fun c=>(Cu.blob c 65536).2)] ⟨s,0,0⟩=R at *
 obtain ⟨sp,c2⟩:=R
 simp only at hrd hRok ⊢
 have hen:=cursor_End c2.s c2.a c2.e hRok
 rw [show Cu.fin ⟨c2.s,c2.a,c2.e⟩=Cu.fin c2 from rfl] at hen
 generalize Cu.fin c2=d at *
 generalize Cu.vtake ⟨s,0,0⟩=z at *
 obtain ⟨q,c1⟩:=z
 simp only at hvt ok1
 have hfl:=blob_Flag c1.s c1.a c1.e ok1
 rw [show Cu.flag ⟨c1.s,c1.a,c1.e⟩=Cu.flag c1 from rfl] at hfl
 generalize Cu.flag c1=z at *
 obtain ⟨b,c3⟩:=z
 simp only at hfl
 have hli:=list_9 v b
 (have kk1:=uN [] hh;have kk2:=uN [] hnew;have kk3:=uN [0] hvt;have kk4:=uN [0] hfl;have kk5:=uN [] hli;have kk6:=uN [1,4,7] hrd;have kk7:=uN [1] hen;exact Wd0)
end Go.AW
namespace Go.AW
open Go Go.Proofs Go.RowKit
section
variable {H : Type} {enc : TypeId × Value → H} {w : World}
def Sp.fits(x:Sp):Prop:=x.1.length≤9223372036854775807∧(-9223372036854775808≤x.2.1∧x.2.1≤9223372036854775807)∧(-9223372036854775808≤x.2.2∧x.2.2≤9223372036854775807)
end
end Go.AW
