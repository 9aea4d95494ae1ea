/-
  a message's parts: those of each kind.
-/
import Derived.Test.YtdnfcckkdnkaiaaGreatU12
set_option linter.unusedVariables false
set_option linter.unusedSimpArgs false
set_option maxHeartbeats 4000000
set_option maxRecDepth 10000
namespace Go.AW
open Go Go.Proofs
attribute [local irreducible] thenQ blockQ RetQ AL AW AC AOp
theorem parts_11:AC Tryz.prog 52 [iv .u8 1,iv .u8 1] [] fun y σ=>y=.t [.b 10 0 1,bv true]∧σ=[qo29,.box 4 [bv true],qo22,qo8,qo26,qo14,qo30,.box 4 [bv false],qo23,qo9,qo8]:=by
 refine AC.wk Tryz.func52 ?_
 (have kk1:=uN [] (msg_text 128 true 113);have kk2:=uN [] (msg_flag 115);have kk3:=uN [] (msg_text 64 false 116);exact Wf11)
theorem which_11:AC Tryz.prog 30 [iv .u8 1,iv .u8 1] [] fun y σ=>y=.t [.b 10 0 1,iv .i64 0]∧σ=[qo29,.box 4 [bv true],qo22,qo8,qo26,qo14,qo30,.box 4 [bv false],qo23,qo9,qo8]:=by
 refine AC.wk Tryz.func30 ?_
 have hp:=parts_11
 (have kk1:=uN [] hp;exact Wd11)
theorem parts_12:AC Tryz.prog 52 [iv .u8 1,iv .u8 2] [] fun y σ=>y=.t [.b 11 0 2,bv true]∧σ=[qo29,.box 4 [bv true],qo22,qo8,qo26,qo14,qo30,.box 4 [bv false],qo23,qo9,qo18,qo3]:=by
 refine AC.wk Tryz.func52 ?_
 (have kk1:=uN [] (msg_text 128 true 113);have kk2:=uN [] (msg_flag 115);have kk3:=uN [] (msg_text 64 false 116);have kk4:=uN [] msg_oldPart;have kk5:=uN [] msg_found_old;exact Wf12)
theorem which_12:AC Tryz.prog 30 [iv .u8 1,iv .u8 2] [] fun y σ=>y=.t [.b 11 0 2,iv .i64 0]∧σ=[qo29,.box 4 [bv true],qo22,qo8,qo26,qo14,qo30,.box 4 [bv false],qo23,qo9,qo18,qo3]:=by
 refine AC.wk Tryz.func30 ?_
 have hp:=parts_12
 (have kk1:=uN [] hp;exact Wd12)
theorem parts_18:AC Tryz.prog 52 [iv .u8 1,iv .u8 8] [] fun y σ=>y=.t [.b 10 0 2,bv true]∧σ=[qo29,.box 4 [bv true],qo22,qo8,qo26,qo14,qo30,.box 4 [bv false],qo23,qo9,qo1]:=by
 refine AC.wk Tryz.func52 ?_
 (have kk1:=uN [] (msg_text 128 true 113);have kk2:=uN [] (msg_flag 115);have kk3:=uN [] (msg_text 64 false 116);have kk4:=uN [] msg_codePart;exact Wf11)
theorem which_18:AC Tryz.prog 30 [iv .u8 1,iv .u8 8] [] fun y σ=>y=.t [.b 10 0 2,iv .i64 0]∧σ=[qo29,.box 4 [bv true],qo22,qo8,qo26,qo14,qo30,.box 4 [bv false],qo23,qo9,qo1]:=by
 refine AC.wk Tryz.func30 ?_
 have hp:=parts_18
 (have kk1:=uN [] hp;exact Wd11)
theorem parts_21:AC Tryz.prog 52 [iv .u8 2,iv .u8 1] [] fun y σ=>y=.t [.b 10 0 1,bv true]∧σ=[qo29,.box 4 [bv true],qo22,qo8,qo26,qo14,qo30,.box 4 [bv false],qo23,qo9,qo8]:=by
 refine AC.wk Tryz.func52 ?_
 (have kk1:=uN [] (msg_text 128 true 113);have kk2:=uN [] (msg_flag 115);have kk3:=uN [] (msg_text 64 false 116);exact Wf11)
theorem which_21:AC Tryz.prog 30 [iv .u8 2,iv .u8 1] [] fun y σ=>y=.t [.b 10 0 1,iv .i64 0]∧σ=[qo29,.box 4 [bv true],qo22,qo8,qo26,qo14,qo30,.box 4 [bv false],qo23,qo9,qo8]:=by
 refine AC.wk Tryz.func30 ?_
 have hp:=parts_21
 (have kk1:=uN [] hp;exact Wd11)
theorem parts_22:AC Tryz.prog 52 [iv .u8 2,iv .u8 2] [] fun y σ=>y=.t [.b 11 0 2,bv true]∧σ=[qo29,.box 4 [bv true],qo22,qo8,qo26,qo14,qo30,.box 4 [bv false],qo23,qo9,qo17,qo3]:=by
 refine AC.wk Tryz.func52 ?_
 (have kk1:=uN [] (msg_text 128 true 113);have kk2:=uN [] (msg_flag 115);have kk3:=uN [] (msg_text 64 false 116);have kk4:=uN [] msg_objectPart;have kk5:=uN [] msg_found_object;exact Wf12)
theorem which_22:AC Tryz.prog 30 [iv .u8 2,iv .u8 2] [] fun y σ=>y=.t [.b 11 0 2,iv .i64 0]∧σ=[qo29,.box 4 [bv true],qo22,qo8,qo26,qo14,qo30,.box 4 [bv false],qo23,qo9,qo17,qo3]:=by
 refine AC.wk Tryz.func30 ?_
 have hp:=parts_22
 (have kk1:=uN [] hp;exact Wd12)
theorem parts_23:AC Tryz.prog 52 [iv .u8 2,iv .u8 3] [] fun y σ=>y=.t [.b 15 0 5,bv true]∧σ=[qo29,.box 4 [bv true],qo22,qo8,qo26,qo14,qo30,.box 4 [bv false],qo23,qo9,qo27,.box 86 [.f (.func 175) [] [],.f (.func 176) [] [.p 10 0],.f (.func 178) [] [.p 10 0],.f (.func 179) [] [.p 10 0]],qo28,.box 4 [bv false],qo24,.box 86 [.f (.func 168) [] [.p 1 0,.p 2 0,.p 0 0],.f (.func 170) [] [.p 0 0,.p 2 0],.f (.func 172) [] [.p 0 0,.p 2 0,.p 1 0],.f (.func 174) [] [.p 2 0],.f (.func 206) [] [],.f (.func 208) [] [],.f (.func 210) [] [],.f (.func 211) [] [],.f (.func 212) [] [],.f (.func 214) [] [],.f (.func 216) [] [],.f (.func 217) [] [],.f (.func 175) [] [],.f (.func 176) [] [.p 10 0],.f (.func 178) [] [.p 10 0],.f (.func 179) [] [.p 10 0],.f (.func 168) [] [.p 13 0,.p 14 0,.p 12 0],.f (.func 170) [] [.p 12 0,.p 14 0],.f (.func 172) [] [.p 12 0,.p 14 0,.p 13 0],.f (.func 174) [] [.p 14 0]]]:=by
 refine AC.wk Tryz.func52 ?_
 (have kk1:=uN [] (msg_text 128 true 113);have kk2:=uN [] (msg_flag 115);have kk3:=uN [] (msg_text 64 false 116);have kk4:=uN [] (msg_flag 121);have kk5:=uN [] (msg_text 32768 false 124);have kk6:=uN [] msg_ctxPart;have kk7:=uN [] msg_metaPart;exact Wf16)
theorem which_23:AC Tryz.prog 30 [iv .u8 2,iv .u8 3] [] fun y σ=>y=.t [.b 15 0 5,iv .i64 0]∧σ=[qo29,.box 4 [bv true],qo22,qo8,qo26,qo14,qo30,.box 4 [bv false],qo23,qo9,qo27,.box 86 [.f (.func 175) [] [],.f (.func 176) [] [.p 10 0],.f (.func 178) [] [.p 10 0],.f (.func 179) [] [.p 10 0]],qo28,.box 4 [bv false],qo24,.box 86 [.f (.func 168) [] [.p 1 0,.p 2 0,.p 0 0],.f (.func 170) [] [.p 0 0,.p 2 0],.f (.func 172) [] [.p 0 0,.p 2 0,.p 1 0],.f (.func 174) [] [.p 2 0],.f (.func 206) [] [],.f (.func 208) [] [],.f (.func 210) [] [],.f (.func 211) [] [],.f (.func 212) [] [],.f (.func 214) [] [],.f (.func 216) [] [],.f (.func 217) [] [],.f (.func 175) [] [],.f (.func 176) [] [.p 10 0],.f (.func 178) [] [.p 10 0],.f (.func 179) [] [.p 10 0],.f (.func 168) [] [.p 13 0,.p 14 0,.p 12 0],.f (.func 170) [] [.p 12 0,.p 14 0],.f (.func 172) [] [.p 12 0,.p 14 0,.p 13 0],.f (.func 174) [] [.p 14 0]]]:=by
 refine AC.wk Tryz.func30 ?_
 have hp:=parts_23
 (have kk1:=uN [] hp;exact Wd16)
theorem parts_24:AC Tryz.prog 52 [iv .u8 2,iv .u8 4] [] fun y σ=>y=.t [.b 10 0 1,bv true]∧σ=[qo29,.box 4 [bv true],qo22,qo8,qo26,qo14,qo30,.box 4 [bv false],qo23,qo9,qo19]:=by
 refine AC.wk Tryz.func52 ?_
 (have kk1:=uN [] (msg_text 128 true 113);have kk2:=uN [] (msg_flag 115);have kk3:=uN [] (msg_text 64 false 116);have kk4:=uN [] msg_ctxPart;exact Wf11)
theorem which_24:AC Tryz.prog 30 [iv .u8 2,iv .u8 4] [] fun y σ=>y=.t [.b 10 0 1,iv .i64 0]∧σ=[qo29,.box 4 [bv true],qo22,qo8,qo26,qo14,qo30,.box 4 [bv false],qo23,qo9,qo19]:=by
 refine AC.wk Tryz.func30 ?_
 have hp:=parts_24
 (have kk1:=uN [] hp;exact Wd11)
theorem parts_25:AC Tryz.prog 52 [iv .u8 2,iv .u8 5] [] fun y σ=>y=.t [.b 13 0 1,bv true]∧σ=[qo29,.box 4 [bv true],qo22,qo8,qo26,qo14,qo30,.box 4 [bv false],qo23,qo9,qo31,.box 4 [bv false],qo25,.box 86 [.f (.func 168) [] [.p 11 0,.p 12 0,.p 10 0],.f (.func 170) [] [.p 10 0,.p 12 0],.f (.func 172) [] [.p 10 0,.p 12 0,.p 11 0],.f (.func 174) [] [.p 12 0]]]:=by
 refine AC.wk Tryz.func52 ?_
 (have kk1:=uN [] (msg_text 128 true 113);have kk2:=uN [] (msg_flag 115);have kk3:=uN [] (msg_text 64 false 116);have kk4:=uN [] (msg_text 31 false 125);exact Wf14)
theorem which_25:AC Tryz.prog 30 [iv .u8 2,iv .u8 5] [] fun y σ=>y=.t [.b 13 0 1,iv .i64 0]∧σ=[qo29,.box 4 [bv true],qo22,qo8,qo26,qo14,qo30,.box 4 [bv false],qo23,qo9,qo31,.box 4 [bv false],qo25,.box 86 [.f (.func 168) [] [.p 11 0,.p 12 0,.p 10 0],.f (.func 170) [] [.p 10 0,.p 12 0],.f (.func 172) [] [.p 10 0,.p 12 0,.p 11 0],.f (.func 174) [] [.p 12 0]]]:=by
 refine AC.wk Tryz.func30 ?_
 have hp:=parts_25
 (have kk1:=uN [] hp;exact Wd14)
theorem parts_26:AC Tryz.prog 52 [iv .u8 2,iv .u8 6] [] fun y σ=>y=.t [.b 10 0 1,bv true]∧σ=[qo29,.box 4 [bv true],qo22,qo8,qo26,qo14,qo30,.box 4 [bv false],qo23,qo9,qo20]:=by
 refine AC.wk Tryz.func52 ?_
 (have kk1:=uN [] (msg_text 128 true 113);have kk2:=uN [] (msg_flag 115);have kk3:=uN [] (msg_text 64 false 116);have kk4:=uN [] msg_pagePart;exact Wf11)
theorem which_26:AC Tryz.prog 30 [iv .u8 2,iv .u8 6] [] fun y σ=>y=.t [.b 10 0 1,iv .i64 0]∧σ=[qo29,.box 4 [bv true],qo22,qo8,qo26,qo14,qo30,.box 4 [bv false],qo23,qo9,qo20]:=by
 refine AC.wk Tryz.func30 ?_
 have hp:=parts_26
 (have kk1:=uN [] hp;exact Wd11)
theorem parts_27:AC Tryz.prog 52 [iv .u8 2,iv .u8 7] [] fun y σ=>y=.t [.b 10 0 1,bv true]∧σ=[qo29,.box 4 [bv true],qo22,qo8,qo26,qo14,qo30,.box 4 [bv false],qo23,qo9,qo21]:=by
 refine AC.wk Tryz.func52 ?_
 (have kk1:=uN [] (msg_text 128 true 113);have kk2:=uN [] (msg_flag 115);have kk3:=uN [] (msg_text 64 false 116);have kk4:=uN [] msg_ringPart;exact Wf11)
theorem which_27:AC Tryz.prog 30 [iv .u8 2,iv .u8 7] [] fun y σ=>y=.t [.b 10 0 1,iv .i64 0]∧σ=[qo29,.box 4 [bv true],qo22,qo8,qo26,qo14,qo30,.box 4 [bv false],qo23,qo9,qo21]:=by
 refine AC.wk Tryz.func30 ?_
 have hp:=parts_27
 (have kk1:=uN [] hp;exact Wd11)
theorem parts_28:AC Tryz.prog 52 [iv .u8 2,iv .u8 8] [] fun y σ=>y=.t [.b 10 0 2,bv true]∧σ=[qo29,.box 4 [bv true],qo22,qo8,qo26,qo14,qo30,.box 4 [bv false],qo23,qo9,qo1]:=by
 refine AC.wk Tryz.func52 ?_
 (have kk1:=uN [] (msg_text 128 true 113);have kk2:=uN [] (msg_flag 115);have kk3:=uN [] (msg_text 64 false 116);have kk4:=uN [] msg_codePart;exact Wf11)
theorem which_28:AC Tryz.prog 30 [iv .u8 2,iv .u8 8] [] fun y σ=>y=.t [.b 10 0 2,iv .i64 0]∧σ=[qo29,.box 4 [bv true],qo22,qo8,qo26,qo14,qo30,.box 4 [bv false],qo23,qo9,qo1]:=by
 refine AC.wk Tryz.func30 ?_
 have hp:=parts_28
 (have kk1:=uN [] hp;exact Wd11)
theorem parts_29:AC Tryz.prog 52 [iv .u8 2,iv .u8 9] [] fun y σ=>y=.t [.b 10 0 1,bv true]∧σ=[qo29,.box 4 [bv true],qo22,qo8,qo26,qo14,qo30,.box 4 [bv false],qo23,qo9,qo17]:=by
 refine AC.wk Tryz.func52 ?_
 (have kk1:=uN [] (msg_text 128 true 113);have kk2:=uN [] (msg_flag 115);have kk3:=uN [] (msg_text 64 false 116);have kk4:=uN [] msg_objectPart;exact Wf11)
theorem which_29:AC Tryz.prog 30 [iv .u8 2,iv .u8 9] [] fun y σ=>y=.t [.b 10 0 1,iv .i64 0]∧σ=[qo29,.box 4 [bv true],qo22,qo8,qo26,qo14,qo30,.box 4 [bv false],qo23,qo9,qo17]:=by
 refine AC.wk Tryz.func30 ?_
 have hp:=parts_29
 (have kk1:=uN [] hp;exact Wd11)
theorem parts_none(v k:Nat)(hv:v<256)(hk:k<256)(h:has v k=false):AC Tryz.prog 52 [iv .u8 (v:Nat),iv .u8 (k:Nat)] [] fun y σ=>y=.t [.d (.l 0 []),bv false]∧σ=[]:=by
 refine AC.wk Tryz.func52 ?_
 have hh:¬ ((v=1∧(k=1∨k=2∨k=8))∨(v=2∧1≤k∧k≤9)):=fun hc=>by
  unfold has at h
  split at h
  ·simp only [decide_eq_false_iff_not] at h;omega
  ·simp only [decide_eq_false_iff_not] at h;omega
 (have kk1:=uN [] (msg_text 128 true 113);have kk2:=uN [] (msg_flag 115);have kk3:=uN [] (msg_text 64 false 116);exact We0)
theorem which_none(v k:Nat)(hv:v<256)(hk:k<256)(h:has v k=false):AC Tryz.prog 30 [iv .u8 (v:Nat),iv .u8 (k:Nat)] [] fun y σ=>y=.t [.d (.l 0 []),iv .i64 (if v≠1∧v≠2 then 10 else 11)]∧σ=[]:=by
 refine AC.wk Tryz.func30 ?_
 have hp:=parts_none v k hv hk h
 by_cases h0:v≠1∧v≠2
 ·rw [if_pos h0]
  obtain ⟨h1,h2⟩:=h0
  (have kk1:=uN [] hp;exact Wd0)
 ·rw [if_neg h0]
  (have kk1:=uN [] hp;exact Wd0)
end Go.AW
