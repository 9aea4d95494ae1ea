/-
  messages, the document's: what it is read as (puts).
-/
import Derived.Test.YtdnfcckkdnkaiaaGreatU39
set_option linter.unusedVariables false
set_option linter.unusedSimpArgs false
set_option maxHeartbeats 4000000
set_option maxRecDepth 10000
namespace Go.AW
open Go Go.Proofs
attribute [local irreducible] thenQ blockQ RetQ AL AW AC AOp
theorem rdecode_23(s:List UInt8)(hs:s.length≤140737488351232):AC Tryz.prog 10 [iv .u8 2,iv .u8 3,sv (bs s)] [] fun y σ=>y=.t [mgV (msgw 2 3 s).1,iv .i64 (msgw 2 3 s).2]∧σ=[]:=by
 refine AC.wk Tryz.func10 ?_
 have hok0:Cu.Ok ⟨s,0,0⟩:=⟨hs,Nat.zero_le _⟩
 have hh:=ref23_Has 2 3 (by decide) (by decide)
 rw [show has 2 3=true from rfl] at hh
 have hvt:=ref03_Take s 0 0 hok0
 have ok0:(Cu.vtake ⟨s,0,0⟩).2.Ok:=Cu.vtake_ok hok0
 have hrw:msgw 2 3 s=(if (Cu.msg 2 3 ⟨s,0,0⟩).2.fin.e≠0 then mg0 else (Cu.msg 2 3 ⟨s,0,0⟩).1,(Cu.msg 2 3 ⟨s,0,0⟩).2.fin.e):=msgw_has rfl s
 rw [hrw]
 clear hrw
 generalize h0:Cu.vtake ⟨s,0,0⟩=z at *
 obtain ⟨id,c0⟩:=z
 simp only at hvt ok0
 have t0:=ref06_Take c0.s c0.a c0.e 128 ok0 (by decide)
 have ok1:(Cu.blob c0 128).2.Ok:=Cu.blob_ok ok0
 rw [show Cu.blob ⟨c0.s,c0.a,c0.e⟩ 128=Cu.blob c0 128 from rfl] at t0
 generalize hz0:Cu.blob c0 128=z at *
 obtain ⟨v0,c1⟩:=z
 simp only at t0 ok1
 obtain ⟨q,hq⟩:∃ q,q=gd (decide (v0≠[])) 14 c1:=⟨_,rfl⟩
 have oky:Cu.okey c0=(v0,q):=by unfold Cu.okey;rw [hz0,hq]
 have okq:q.Ok:=by rw [hq];exact gd_ok ok1
 clear hz0
 have hcase:(v0≠[]∧q=c1)∨(v0=[]∧c1.e=0∧q=⟨c1.s,c1.a,14⟩)∨(v0=[]∧c1.e≠0∧q=c1):=by
  by_cases hk0:v0=[]
  ·rw [decide_eq_false (by simpa using hk0)] at hq
   have hq:q=c1.fail 14:=hq
   by_cases he1:c1.e=0
   ·refine .inr (.inl ⟨hk0,he1,?_⟩);rw [hq];unfold Cu.fail;rw [if_pos he1]
   ·exact .inr (.inr ⟨hk0,he1,by rw [hq];exact Cu.fail_stuck he1 14⟩)
  ·rw [decide_eq_true hk0] at hq;exact .inl ⟨hk0,hq⟩
 clear hq
 rcases hcase with ⟨hk0,rfl⟩|⟨rfl,he1,rfl⟩|⟨rfl,he1,rfl⟩
 ·have hl0:v0.length≠0:=fun h=>hk0 (List.length_eq_zero_iff.1 h)
  have t1:=ref11_Take q.s q.a q.e okq
  have ok2:(Cu.vec q).2.Ok:=Cu.vec_ok okq
  rw [show Cu.vec ⟨q.s,q.a,q.e⟩=Cu.vec q from rfl] at t1
  generalize hz1:Cu.vec q=z at *
  obtain ⟨v1,c2⟩:=z
  simp only at t1 ok2
  have t2:=ref14_Take c2.s c2.a c2.e ok2
  have ok3:(Cu.prs c2).2.Ok:=Cu.prs_ok ok2
  rw [show Cu.prs ⟨c2.s,c2.a,c2.e⟩=Cu.prs c2 from rfl] at t2
  generalize hz2:Cu.prs c2=z at *
  obtain ⟨v2,c3⟩:=z
  simp only at t2 ok3
  have t3:=ref06_Flag c3.s c3.a c3.e ok3
  have ok4:(Cu.flag c3).2.Ok:=Cu.flag_ok ok3
  rw [show Cu.flag ⟨c3.s,c3.a,c3.e⟩=Cu.flag c3 from rfl] at t3
  generalize hz3:Cu.flag c3=z at *
  obtain ⟨v3,c4⟩:=z
  simp only at t3 ok4
  have t4:=ref06_Take c4.s c4.a c4.e 32768 ok4 (by decide)
  have ok5:(Cu.blob c4 32768).2.Ok:=Cu.blob_ok ok4
  rw [show Cu.blob ⟨c4.s,c4.a,c4.e⟩ 32768=Cu.blob c4 32768 from rfl] at t4
  generalize hz4:Cu.blob c4 32768=z at *
  obtain ⟨v4,c5⟩:=z
  simp only at t4 ok5
  have hm:Cu.msg 2 3 ⟨s,0,0⟩=(({ mg0 with kind:=3,id:=id,key:=v0,ctx:=v1,meta_:=v2,dead:=v3,val:=v4 }:Mg),c5):=by simp only [Cu.msg,Cu.mbody,h0,oky,hz1,hz2,hz3,hz4]
  rw [hm]
  simp only
  have hen:=ref01_End c5.s c5.a c5.e ok5
  rw [show Cu.fin ⟨c5.s,c5.a,c5.e⟩=Cu.fin c5 from rfl] at hen
  generalize Cu.fin c5=d at *
  clear hm h0 oky hz1 hz2 hz3 hz4
  by_cases hd:d.e=0
  ·rw [if_neg (by simpa using hd)]
   rw [hd] at hen ⊢
   focus (have kk1:=uN [] hh;have kk2:=uN [1] hvt;have kk3:=uN [1] t0;have kk4:=uN [1] t1;have kk5:=uN [1] t2;have kk6:=uN [1] t3;have kk7:=uN [1] t4;have kk8:=uN [1] hen;(repeat' (first|refine G ?_|refine AW.ret ?_|(refine GC ?_ ?_<;>intro h<;>(try simp only [hsB] at h)<;>try exact xf)|(refine GL ?_ ?_<;>intro h<;>(try simp only [hsN] at h)<;>(try simp only [h])<;>(try simp only [hsB] at h)<;>try exact xf)|fail));all_goals clear kk1 kk2 kk3 kk4 kk5 kk6 kk7 kk8)
   all_goals first|exact RetQ.r (xs:=[.a [.d (.s (.int .u8 3)),.d (.s (.int .u64 (id:Nat))),.d (.s (.string ⟨(v0).toArray⟩)),.d Df,.d De,.d Dn,.d De,.d Dn,.d (.l v1.length (vecD v1)),.d (.l v2.length (prsD v2)),.d (.s (.bool v3)),.d (.s (.string ⟨(v4).toArray⟩)),.d De,.d De,.d Df,.d Dn,.d Dn,.d Dn,.d D0,.d De],iv .i64 0]) 0 rfl (Nat.le_of_ble_eq_true rfl) rfl rfl ⟨rfl,rfl⟩|exact RetQ.fr 0|exact RetQ.fn 0|exact xg
  ·rw [if_pos hd]
   (have kk1:=uN [] hh;have kk2:=uN [1] hvt;have kk3:=uN [1] t0;have kk4:=uN [1] t1;have kk5:=uN [1] t2;have kk6:=uN [1] t3;have kk7:=uN [1] t4;have kk8:=uN [1] hen;exact Wd0)
 ·have hl0:True:=trivial
  have t1:=ref11_Take (⟨c1.s,c1.a,14⟩:Cu).s (⟨c1.s,c1.a,14⟩:Cu).a (⟨c1.s,c1.a,14⟩:Cu).e okq
  have ok2:(Cu.vec (⟨c1.s,c1.a,14⟩:Cu)).2.Ok:=Cu.vec_ok okq
  rw [show Cu.vec ⟨(⟨c1.s,c1.a,14⟩:Cu).s,(⟨c1.s,c1.a,14⟩:Cu).a,(⟨c1.s,c1.a,14⟩:Cu).e⟩=Cu.vec (⟨c1.s,c1.a,14⟩:Cu) from rfl] at t1
  generalize hz1:Cu.vec (⟨c1.s,c1.a,14⟩:Cu)=z at *
  obtain ⟨v1,c2⟩:=z
  simp only at t1 ok2
  have t2:=ref14_Take c2.s c2.a c2.e ok2
  have ok3:(Cu.prs c2).2.Ok:=Cu.prs_ok ok2
  rw [show Cu.prs ⟨c2.s,c2.a,c2.e⟩=Cu.prs c2 from rfl] at t2
  generalize hz2:Cu.prs c2=z at *
  obtain ⟨v2,c3⟩:=z
  simp only at t2 ok3
  have t3:=ref06_Flag c3.s c3.a c3.e ok3
  have ok4:(Cu.flag c3).2.Ok:=Cu.flag_ok ok3
  rw [show Cu.flag ⟨c3.s,c3.a,c3.e⟩=Cu.flag c3 from rfl] at t3
  generalize hz3:Cu.flag c3=z at *
  obtain ⟨v3,c4⟩:=z
  simp only at t3 ok4
  have t4:=ref06_Take c4.s c4.a c4.e 32768 ok4 (by decide)
  have ok5:(Cu.blob c4 32768).2.Ok:=Cu.blob_ok ok4
  rw [show Cu.blob ⟨c4.s,c4.a,c4.e⟩ 32768=Cu.blob c4 32768 from rfl] at t4
  generalize hz4:Cu.blob c4 32768=z at *
  obtain ⟨v4,c5⟩:=z
  simp only at t4 ok5
  have hm:Cu.msg 2 3 ⟨s,0,0⟩=(({ mg0 with kind:=3,id:=id,key:=([]:List UInt8),ctx:=v1,meta_:=v2,dead:=v3,val:=v4 }:Mg),c5):=by simp only [Cu.msg,Cu.mbody,h0,oky,hz1,hz2,hz3,hz4]
  rw [hm]
  simp only
  have hen:=ref01_End c5.s c5.a c5.e ok5
  rw [show Cu.fin ⟨c5.s,c5.a,c5.e⟩=Cu.fin c5 from rfl] at hen
  generalize Cu.fin c5=d at *
  clear hm h0 oky hz1 hz2 hz3 hz4
  by_cases hd:d.e=0
  ·rw [if_neg (by simpa using hd)]
   rw [hd] at hen ⊢
   focus (have kk1:=uN [] hh;have kk2:=uN [1] hvt;have kk3:=uN [1] t0;have kk4:=uN [1] t1;have kk5:=uN [1] t2;have kk6:=uN [1] t3;have kk7:=uN [1] t4;have kk8:=uN [1] hen;(repeat' (first|refine G ?_|refine AW.ret ?_|(refine GC ?_ ?_<;>intro h<;>(try simp only [hsB] at h)<;>try exact xf)|(refine GL ?_ ?_<;>intro h<;>(try simp only [hsN] at h)<;>(try simp only [h])<;>(try simp only [hsB] at h)<;>try exact xf)|fail));all_goals clear kk1 kk2 kk3 kk4 kk5 kk6 kk7 kk8)
   all_goals first|exact RetQ.r (xs:=[.a [.d (.s (.int .u8 3)),.d (.s (.int .u64 (id:Nat))),.d (.s (.string ⟨(([]:List UInt8)).toArray⟩)),.d Df,.d De,.d Dn,.d De,.d Dn,.d (.l v1.length (vecD v1)),.d (.l v2.length (prsD v2)),.d (.s (.bool v3)),.d (.s (.string ⟨(v4).toArray⟩)),.d De,.d De,.d Df,.d Dn,.d Dn,.d Dn,.d D0,.d De],iv .i64 0]) 0 rfl (Nat.le_of_ble_eq_true rfl) rfl rfl ⟨rfl,rfl⟩|exact RetQ.fr 0|exact RetQ.fn 0|exact xg
  ·rw [if_pos hd]
   (have kk1:=uN [] hh;have kk2:=uN [1] hvt;have kk3:=uN [1] t0;have kk4:=uN [1] t1;have kk5:=uN [1] t2;have kk6:=uN [1] t3;have kk7:=uN [1] t4;have kk8:=uN [1] hen;exact Wd0)
 ·have hl0:True:=trivial
  have t1:=ref11_Take q.s q.a q.e okq
  have ok2:(Cu.vec q).2.Ok:=Cu.vec_ok okq
  rw [show Cu.vec ⟨q.s,q.a,q.e⟩=Cu.vec q from rfl] at t1
  generalize hz1:Cu.vec q=z at *
  obtain ⟨v1,c2⟩:=z
  simp only at t1 ok2
  have t2:=ref14_Take c2.s c2.a c2.e ok2
  have ok3:(Cu.prs c2).2.Ok:=Cu.prs_ok ok2
  rw [show Cu.prs ⟨c2.s,c2.a,c2.e⟩=Cu.prs c2 from rfl] at t2
  generalize hz2:Cu.prs c2=z at *
  obtain ⟨v2,c3⟩:=z
  simp only at t2 ok3
  have t3:=ref06_Flag c3.s c3.a c3.e ok3
  have ok4:(Cu.flag c3).2.Ok:=Cu.flag_ok ok3
  rw [show Cu.flag ⟨c3.s,c3.a,c3.e⟩=Cu.flag c3 from rfl] at t3
  generalize hz3:Cu.flag c3=z at *
  obtain ⟨v3,c4⟩:=z
  simp only at t3 ok4
  have t4:=ref06_Take c4.s c4.a c4.e 32768 ok4 (by decide)
  have ok5:(Cu.blob c4 32768).2.Ok:=Cu.blob_ok ok4
  rw [show Cu.blob ⟨c4.s,c4.a,c4.e⟩ 32768=Cu.blob c4 32768 from rfl] at t4
  generalize hz4:Cu.blob c4 32768=z at *
  obtain ⟨v4,c5⟩:=z
  simp only at t4 ok5
  have hm:Cu.msg 2 3 ⟨s,0,0⟩=(({ mg0 with kind:=3,id:=id,key:=([]:List UInt8),ctx:=v1,meta_:=v2,dead:=v3,val:=v4 }:Mg),c5):=by simp only [Cu.msg,Cu.mbody,h0,oky,hz1,hz2,hz3,hz4]
  rw [hm]
  simp only
  have hen:=ref01_End c5.s c5.a c5.e ok5
  rw [show Cu.fin ⟨c5.s,c5.a,c5.e⟩=Cu.fin c5 from rfl] at hen
  generalize Cu.fin c5=d at *
  clear hm h0 oky hz1 hz2 hz3 hz4
  by_cases hd:d.e=0
  ·rw [if_neg (by simpa using hd)]
   rw [hd] at hen ⊢
   focus (have kk1:=uN [] hh;have kk2:=uN [1] hvt;have kk3:=uN [1] t0;have kk4:=uN [1] t1;have kk5:=uN [1] t2;have kk6:=uN [1] t3;have kk7:=uN [1] t4;have kk8:=uN [1] hen;(repeat' (first|refine G ?_|refine AW.ret ?_|(refine GC ?_ ?_<;>intro h<;>(try simp only [hsB] at h)<;>try exact xf)|(refine GL ?_ ?_<;>intro h<;>(try simp only [hsN] at h)<;>(try simp only [h])<;>(try simp only [hsB] at h)<;>try exact xf)|fail));all_goals clear kk1 kk2 kk3 kk4 kk5 kk6 kk7 kk8)
   all_goals first|exact RetQ.r (xs:=[.a [.d (.s (.int .u8 3)),.d (.s (.int .u64 (id:Nat))),.d (.s (.string ⟨(([]:List UInt8)).toArray⟩)),.d Df,.d De,.d Dn,.d De,.d Dn,.d (.l v1.length (vecD v1)),.d (.l v2.length (prsD v2)),.d (.s (.bool v3)),.d (.s (.string ⟨(v4).toArray⟩)),.d De,.d De,.d Df,.d Dn,.d Dn,.d Dn,.d D0,.d De],iv .i64 0]) 0 rfl (Nat.le_of_ble_eq_true rfl) rfl rfl ⟨rfl,rfl⟩|exact RetQ.fr 0|exact RetQ.fn 0|exact xg
  ·rw [if_pos hd]
   (have kk1:=uN [] hh;have kk2:=uN [1] hvt;have kk3:=uN [1] t0;have kk4:=uN [1] t1;have kk5:=uN [1] t2;have kk6:=uN [1] t3;have kk7:=uN [1] t4;have kk8:=uN [1] hen;exact Wd0)
theorem rdecode_24(s:List UInt8)(hs:s.length≤140737488351232):AC Tryz.prog 10 [iv .u8 2,iv .u8 4,sv (bs s)] [] fun y σ=>y=.t [mgV (msgw 2 4 s).1,iv .i64 (msgw 2 4 s).2]∧σ=[]:=by
 refine AC.wk Tryz.func10 ?_
 have hok0:Cu.Ok ⟨s,0,0⟩:=⟨hs,Nat.zero_le _⟩
 have hh:=ref23_Has 2 4 (by decide) (by decide)
 rw [show has 2 4=true from rfl] at hh
 have hvt:=ref03_Take s 0 0 hok0
 have ok0:(Cu.vtake ⟨s,0,0⟩).2.Ok:=Cu.vtake_ok hok0
 have hrw:msgw 2 4 s=(if (Cu.msg 2 4 ⟨s,0,0⟩).2.fin.e≠0 then mg0 else (Cu.msg 2 4 ⟨s,0,0⟩).1,(Cu.msg 2 4 ⟨s,0,0⟩).2.fin.e):=msgw_has rfl s
 rw [hrw]
 clear hrw
 generalize h0:Cu.vtake ⟨s,0,0⟩=z at *
 obtain ⟨id,c0⟩:=z
 simp only at hvt ok0
 have t0:=ref11_Take c0.s c0.a c0.e ok0
 have ok1:(Cu.vec c0).2.Ok:=Cu.vec_ok ok0
 rw [show Cu.vec ⟨c0.s,c0.a,c0.e⟩=Cu.vec c0 from rfl] at t0
 generalize hz0:Cu.vec c0=z at *
 obtain ⟨v0,c1⟩:=z
 simp only at t0 ok1
 have hm:Cu.msg 2 4 ⟨s,0,0⟩=(({ mg0 with kind:=4,id:=id,ctx:=v0 }:Mg),c1):=by simp only [Cu.msg,Cu.mbody,h0,hz0]
 rw [hm]
 simp only
 have hen:=ref01_End c1.s c1.a c1.e ok1
 rw [show Cu.fin ⟨c1.s,c1.a,c1.e⟩=Cu.fin c1 from rfl] at hen
 generalize Cu.fin c1=d at *
 clear hm h0 hz0
 by_cases hd:d.e=0
 ·rw [if_neg (by simpa using hd)]
  rw [hd] at hen ⊢
  focus (have kk1:=uN [] hh;have kk2:=uN [1] hvt;have kk3:=uN [1] t0;have kk4:=uN [1] hen;(repeat' (first|refine G ?_|refine AW.ret ?_|(refine GC ?_ ?_<;>intro h<;>(try simp only [hsB] at h)<;>try exact xf)|(refine GL ?_ ?_<;>intro h<;>(try simp only [hsN] at h)<;>(try simp only [h])<;>(try simp only [hsB] at h)<;>try exact xf)|fail));all_goals clear kk1 kk2 kk3 kk4)
  all_goals first|exact RetQ.r (xs:=[.a [.d (.s (.int .u8 4)),.d (.s (.int .u64 (id:Nat))),.d De,.d Df,.d De,.d Dn,.d De,.d Dn,.d (.l v0.length (vecD v0)),.d Dn,.d Df,.d De,.d De,.d De,.d Df,.d Dn,.d Dn,.d Dn,.d D0,.d De],iv .i64 0]) 0 rfl (Nat.le_of_ble_eq_true rfl) rfl rfl ⟨rfl,rfl⟩|exact RetQ.fr 0|exact RetQ.fn 0|exact xg
 ·rw [if_pos hd]
  (have kk1:=uN [] hh;have kk2:=uN [1] hvt;have kk3:=uN [1] t0;have kk4:=uN [1] hen;exact Wd0)
theorem rdecode_25(s:List UInt8)(hs:s.length≤140737488351232):AC Tryz.prog 10 [iv .u8 2,iv .u8 5,sv (bs s)] [] fun y σ=>y=.t [mgV (msgw 2 5 s).1,iv .i64 (msgw 2 5 s).2]∧σ=[]:=by
 refine AC.wk Tryz.func10 ?_
 have hok0:Cu.Ok ⟨s,0,0⟩:=⟨hs,Nat.zero_le _⟩
 have hh:=ref23_Has 2 5 (by decide) (by decide)
 rw [show has 2 5=true from rfl] at hh
 have hvt:=ref03_Take s 0 0 hok0
 have ok0:(Cu.vtake ⟨s,0,0⟩).2.Ok:=Cu.vtake_ok hok0
 have hrw:msgw 2 5 s=(if (Cu.msg 2 5 ⟨s,0,0⟩).2.fin.e≠0 then mg0 else (Cu.msg 2 5 ⟨s,0,0⟩).1,(Cu.msg 2 5 ⟨s,0,0⟩).2.fin.e):=msgw_has rfl s
 rw [hrw]
 clear hrw
 generalize h0:Cu.vtake ⟨s,0,0⟩=z at *
 obtain ⟨id,c0⟩:=z
 simp only at hvt ok0
 have t0:=ref06_Take c0.s c0.a c0.e 31 ok0 (by decide)
 have ok1:(Cu.blob c0 31).2.Ok:=Cu.blob_ok ok0
 rw [show Cu.blob ⟨c0.s,c0.a,c0.e⟩ 31=Cu.blob c0 31 from rfl] at t0
 generalize hz0:Cu.blob c0 31=z at *
 obtain ⟨v0,c1⟩:=z
 simp only at t0 ok1
 have hm:Cu.msg 2 5 ⟨s,0,0⟩=(({ mg0 with kind:=5,id:=id,pre:=v0 }:Mg),c1):=by simp only [Cu.msg,Cu.mbody,h0,hz0]
 rw [hm]
 simp only
 have hen:=ref01_End c1.s c1.a c1.e ok1
 rw [show Cu.fin ⟨c1.s,c1.a,c1.e⟩=Cu.fin c1 from rfl] at hen
 generalize Cu.fin c1=d at *
 clear hm h0 hz0
 by_cases hd:d.e=0
 ·rw [if_neg (by simpa using hd)]
  rw [hd] at hen ⊢
  focus (have kk1:=uN [] hh;have kk2:=uN [1] hvt;have kk3:=uN [1] t0;have kk4:=uN [1] hen;(repeat' (first|refine G ?_|refine AW.ret ?_|(refine GC ?_ ?_<;>intro h<;>(try simp only [hsB] at h)<;>try exact xf)|(refine GL ?_ ?_<;>intro h<;>(try simp only [hsN] at h)<;>(try simp only [h])<;>(try simp only [hsB] at h)<;>try exact xf)|fail));all_goals clear kk1 kk2 kk3 kk4)
  all_goals first|exact RetQ.r (xs:=[.a [.d (.s (.int .u8 5)),.d (.s (.int .u64 (id:Nat))),.d De,.d Df,.d De,.d Dn,.d De,.d Dn,.d Dn,.d Dn,.d Df,.d De,.d (.s (.string ⟨(v0).toArray⟩)),.d De,.d Df,.d Dn,.d Dn,.d Dn,.d D0,.d De],iv .i64 0]) 0 rfl (Nat.le_of_ble_eq_true rfl) rfl rfl ⟨rfl,rfl⟩|exact RetQ.fr 0|exact RetQ.fn 0|exact xg
 ·rw [if_pos hd]
  (have kk1:=uN [] hh;have kk2:=uN [1] hvt;have kk3:=uN [1] t0;have kk4:=uN [1] hen;exact Wd0)
theorem rdecode_26(s:List UInt8)(hs:s.length≤140737488351232):AC Tryz.prog 10 [iv .u8 2,iv .u8 6,sv (bs s)] [] fun y σ=>y=.t [mgV (msgw 2 6 s).1,iv .i64 (msgw 2 6 s).2]∧σ=[]:=by
 refine AC.wk Tryz.func10 ?_
 have hok0:Cu.Ok ⟨s,0,0⟩:=⟨hs,Nat.zero_le _⟩
 have hh:=ref23_Has 2 6 (by decide) (by decide)
 rw [show has 2 6=true from rfl] at hh
 have hvt:=ref03_Take s 0 0 hok0
 have ok0:(Cu.vtake ⟨s,0,0⟩).2.Ok:=Cu.vtake_ok hok0
 have hrw:msgw 2 6 s=(if (Cu.msg 2 6 ⟨s,0,0⟩).2.fin.e≠0 then mg0 else (Cu.msg 2 6 ⟨s,0,0⟩).1,(Cu.msg 2 6 ⟨s,0,0⟩).2.fin.e):=msgw_has rfl s
 rw [hrw]
 clear hrw
 generalize h0:Cu.vtake ⟨s,0,0⟩=z at *
 obtain ⟨id,c0⟩:=z
 simp only at hvt ok0
 have t0:=ref20_Take c0.s c0.a c0.e ok0
 have ok1:(Cu.page c0).2.Ok:=Cu.page_ok ok0
 rw [show Cu.page ⟨c0.s,c0.a,c0.e⟩=Cu.page c0 from rfl] at t0
 generalize hz0:Cu.page c0=z at *
 obtain ⟨v0,c1⟩:=z
 simp only at t0 ok1
 have hm:Cu.msg 2 6 ⟨s,0,0⟩=(({ mg0 with kind:=6,id:=id,page:=v0 }:Mg),c1):=by simp only [Cu.msg,Cu.mbody,h0,hz0]
 rw [hm]
 simp only
 have hen:=ref01_End c1.s c1.a c1.e ok1
 rw [show Cu.fin ⟨c1.s,c1.a,c1.e⟩=Cu.fin c1 from rfl] at hen
 generalize Cu.fin c1=d at *
 clear hm h0 hz0
 by_cases hd:d.e=0
 ·rw [if_neg (by simpa using hd)]
  rw [hd] at hen ⊢
  focus (have kk1:=uN [] hh;have kk2:=uN [1] hvt;have kk3:=uN [1] t0;have kk4:=uN [1] hen;(repeat' (first|refine G ?_|refine AW.ret ?_|(refine GC ?_ ?_<;>intro h<;>(try simp only [hsB] at h)<;>try exact xf)|(refine GL ?_ ?_<;>intro h<;>(try simp only [hsN] at h)<;>(try simp only [h])<;>(try simp only [hsB] at h)<;>try exact xf)|fail));all_goals clear kk1 kk2 kk3 kk4)
  all_goals first|exact RetQ.r (xs:=[.a [.d (.s (.int .u8 6)),.d (.s (.int .u64 (id:Nat))),.d De,.d Df,.d De,.d Dn,.d De,.d Dn,.d Dn,.d Dn,.d Df,.d De,.d De,.d (.s (.string ⟨(v0.pre).toArray⟩)),.d (.s (.bool v0.leaf)),.d (.l v0.slots.length (slsD v0.slots)),.d (.l v0.items.length (itsD v0.items)),.d Dn,.d D0,.d De],iv .i64 0]) 0 rfl (Nat.le_of_ble_eq_true rfl) rfl rfl ⟨rfl,rfl⟩|exact RetQ.fr 0|exact RetQ.fn 0|exact xg
 ·rw [if_pos hd]
  (have kk1:=uN [] hh;have kk2:=uN [1] hvt;have kk3:=uN [1] t0;have kk4:=uN [1] hen;exact Wd0)
theorem rdecode_27(s:List UInt8)(hs:s.length≤140737488351232):AC Tryz.prog 10 [iv .u8 2,iv .u8 7,sv (bs s)] [] fun y σ=>y=.t [mgV (msgw 2 7 s).1,iv .i64 (msgw 2 7 s).2]∧σ=[]:=by
 refine AC.wk Tryz.func10 ?_
 have hok0:Cu.Ok ⟨s,0,0⟩:=⟨hs,Nat.zero_le _⟩
 have hh:=ref23_Has 2 7 (by decide) (by decide)
 rw [show has 2 7=true from rfl] at hh
 have hvt:=ref03_Take s 0 0 hok0
 have ok0:(Cu.vtake ⟨s,0,0⟩).2.Ok:=Cu.vtake_ok hok0
 have hrw:msgw 2 7 s=(if (Cu.msg 2 7 ⟨s,0,0⟩).2.fin.e≠0 then mg0 else (Cu.msg 2 7 ⟨s,0,0⟩).1,(Cu.msg 2 7 ⟨s,0,0⟩).2.fin.e):=msgw_has rfl s
 rw [hrw]
 clear hrw
 generalize h0:Cu.vtake ⟨s,0,0⟩=z at *
 obtain ⟨id,c0⟩:=z
 simp only at hvt ok0
 have t0:=ref22_Take c0.s c0.a c0.e ok0
 have ok1:(Cu.ring c0).2.Ok:=Cu.ring_ok ok0
 rw [show Cu.ring ⟨c0.s,c0.a,c0.e⟩=Cu.ring c0 from rfl] at t0
 generalize hz0:Cu.ring c0=z at *
 obtain ⟨v0,c1⟩:=z
 simp only at t0 ok1
 have hm:Cu.msg 2 7 ⟨s,0,0⟩=(({ mg0 with kind:=7,id:=id,ring:=v0 }:Mg),c1):=by simp only [Cu.msg,Cu.mbody,h0,hz0]
 rw [hm]
 simp only
 have hen:=ref01_End c1.s c1.a c1.e ok1
 rw [show Cu.fin ⟨c1.s,c1.a,c1.e⟩=Cu.fin c1 from rfl] at hen
 generalize Cu.fin c1=d at *
 clear hm h0 hz0
 by_cases hd:d.e=0
 ·rw [if_neg (by simpa using hd)]
  rw [hd] at hen ⊢
  focus (have kk1:=uN [] hh;have kk2:=uN [1] hvt;have kk3:=uN [1] t0;have kk4:=uN [1] hen;(repeat' (first|refine G ?_|refine AW.ret ?_|(refine GC ?_ ?_<;>intro h<;>(try simp only [hsB] at h)<;>try exact xf)|(refine GL ?_ ?_<;>intro h<;>(try simp only [hsN] at h)<;>(try simp only [h])<;>(try simp only [hsB] at h)<;>try exact xf)|fail));all_goals clear kk1 kk2 kk3 kk4)
  all_goals first|exact RetQ.r (xs:=[.a [.d (.s (.int .u8 7)),.d (.s (.int .u64 (id:Nat))),.d De,.d Df,.d De,.d Dn,.d De,.d Dn,.d Dn,.d Dn,.d Df,.d De,.d De,.d De,.d Df,.d Dn,.d Dn,.d (.l v0.length (ringD v0)),.d D0,.d De],iv .i64 0]) 0 rfl (Nat.le_of_ble_eq_true rfl) rfl rfl ⟨rfl,rfl⟩|exact RetQ.fr 0|exact RetQ.fn 0|exact xg
 ·rw [if_pos hd]
  (have kk1:=uN [] hh;have kk2:=uN [1] hvt;have kk3:=uN [1] t0;have kk4:=uN [1] hen;exact Wd0)
theorem rdecode_28(s:List UInt8)(hs:s.length≤140737488351232):AC Tryz.prog 10 [iv .u8 2,iv .u8 8,sv (bs s)] [] fun y σ=>y=.t [mgV (msgw 2 8 s).1,iv .i64 (msgw 2 8 s).2]∧σ=[]:=by
 refine AC.wk Tryz.func10 ?_
 have hok0:Cu.Ok ⟨s,0,0⟩:=⟨hs,Nat.zero_le _⟩
 have hh:=ref23_Has 2 8 (by decide) (by decide)
 rw [show has 2 8=true from rfl] at hh
 have hvt:=ref03_Take s 0 0 hok0
 have ok0:(Cu.vtake ⟨s,0,0⟩).2.Ok:=Cu.vtake_ok hok0
 have hrw:msgw 2 8 s=(if (Cu.msg 2 8 ⟨s,0,0⟩).2.fin.e≠0 then mg0 else (Cu.msg 2 8 ⟨s,0,0⟩).1,(Cu.msg 2 8 ⟨s,0,0⟩).2.fin.e):=msgw_has rfl s
 rw [hrw]
 clear hrw
 generalize h0:Cu.vtake ⟨s,0,0⟩=z at *
 obtain ⟨id,c0⟩:=z
 simp only at hvt ok0
 have t0:=ref06_Count c0.s c0.a c0.e 255 ok0 (by decide)
 have ok1:(Cu.count c0 255).2.Ok:=Cu.count_ok ok0
 rw [show Cu.count ⟨c0.s,c0.a,c0.e⟩ 255=Cu.count c0 255 from rfl] at t0
 generalize hz0:Cu.count c0 255=z at *
 obtain ⟨v0,c1⟩:=z
 simp only at t0 ok1
 have t1:=ref06_Take c1.s c1.a c1.e 64 ok1 (by decide)
 have ok2:(Cu.blob c1 64).2.Ok:=Cu.blob_ok ok1
 rw [show Cu.blob ⟨c1.s,c1.a,c1.e⟩ 64=Cu.blob c1 64 from rfl] at t1
 generalize hz1:Cu.blob c1 64=z at *
 obtain ⟨v1,c2⟩:=z
 simp only at t1 ok2
 have hm:Cu.msg 2 8 ⟨s,0,0⟩=(({ mg0 with kind:=8,id:=id,code:=(v0:Nat),txt:=v1 }:Mg),c2):=by simp only [Cu.msg,Cu.mbody,h0,hz0,hz1]
 rw [hm]
 simp only
 have hen:=ref01_End c2.s c2.a c2.e ok2
 rw [show Cu.fin ⟨c2.s,c2.a,c2.e⟩=Cu.fin c2 from rfl] at hen
 generalize Cu.fin c2=d at *
 clear hm h0 hz0 hz1
 by_cases hd:d.e=0
 ·rw [if_neg (by simpa using hd)]
  rw [hd] at hen ⊢
  focus (have kk1:=uN [] hh;have kk2:=uN [1] hvt;have kk3:=uN [1] t0;have kk4:=uN [1] t1;have kk5:=uN [1] hen;(repeat' (first|refine G ?_|refine AW.ret ?_|(refine GC ?_ ?_<;>intro h<;>(try simp only [hsB] at h)<;>try exact xf)|(refine GL ?_ ?_<;>intro h<;>(try simp only [hsN] at h)<;>(try simp only [h])<;>(try simp only [hsB] at h)<;>try exact xf)|fail));all_goals clear kk1 kk2 kk3 kk4 kk5)
  all_goals first|exact RetQ.r (xs:=[.a [.d (.s (.int .u8 8)),.d (.s (.int .u64 (id:Nat))),.d De,.d Df,.d De,.d Dn,.d De,.d Dn,.d Dn,.d Dn,.d Df,.d De,.d De,.d De,.d Df,.d Dn,.d Dn,.d Dn,.d (.s (.int .i64 (v0:Nat))),.d (.s (.string ⟨(v1).toArray⟩))],iv .i64 0]) 0 rfl (Nat.le_of_ble_eq_true rfl) rfl rfl ⟨rfl,rfl⟩|exact RetQ.fr 0|exact RetQ.fn 0|exact xg
 ·rw [if_pos hd]
  (have kk1:=uN [] hh;have kk2:=uN [1] hvt;have kk3:=uN [1] t0;have kk4:=uN [1] t1;have kk5:=uN [1] hen;exact Wd0)
theorem rdecode_29(s:List UInt8)(hs:s.length≤140737488351232):AC Tryz.prog 10 [iv .u8 2,iv .u8 9,sv (bs s)] [] fun y σ=>y=.t [mgV (msgw 2 9 s).1,iv .i64 (msgw 2 9 s).2]∧σ=[]:=by
 refine AC.wk Tryz.func10 ?_
 have hok0:Cu.Ok ⟨s,0,0⟩:=⟨hs,Nat.zero_le _⟩
 have hh:=ref23_Has 2 9 (by decide) (by decide)
 rw [show has 2 9=true from rfl] at hh
 have hvt:=ref03_Take s 0 0 hok0
 have ok0:(Cu.vtake ⟨s,0,0⟩).2.Ok:=Cu.vtake_ok hok0
 have hrw:msgw 2 9 s=(if (Cu.msg 2 9 ⟨s,0,0⟩).2.fin.e≠0 then mg0 else (Cu.msg 2 9 ⟨s,0,0⟩).1,(Cu.msg 2 9 ⟨s,0,0⟩).2.fin.e):=msgw_has rfl s
 rw [hrw]
 clear hrw
 generalize h0:Cu.vtake ⟨s,0,0⟩=z at *
 obtain ⟨id,c0⟩:=z
 simp only at hvt ok0
 have hbl:=blob_le64 c0
 have hn:Cu.nest Cu.obj oj0 c0=if (Cu.blob c0 65536).2.e=0 then ((objw (Cu.blob c0 65536).1).1,(Cu.blob c0 65536).2.fail (objw (Cu.blob c0 65536).1).2) else (oj0,(Cu.blob c0 65536).2):=rfl
 have t0:=ref06_Take c0.s c0.a c0.e 65536 ok0 (by decide)
 have ok1:(Cu.blob c0 65536).2.Ok:=Cu.blob_ok ok0
 rw [show Cu.blob ⟨c0.s,c0.a,c0.e⟩ 65536=Cu.blob c0 65536 from rfl] at t0
 generalize hz0:Cu.blob c0 65536=z at *
 obtain ⟨v0,c1⟩:=z
 simp only at t0 ok1
 simp only at hn hbl
 clear hz0
 by_cases hb:c1.e=0
 ·rw [if_pos hb] at hn
  have hdc:=ref16_Decode v0 (by omega)
  have hfe:c1.fail (objw v0).2=⟨c1.s,c1.a,(objw v0).2⟩:=by unfold Cu.fail;rw [if_pos hb]
  rw [hfe] at hn
  clear hfe
  generalize objw v0=w at *
  obtain ⟨w1,w2⟩:=w
  simp only at hdc hn
  have okn:Cu.Ok ⟨c1.s,c1.a,w2⟩:=ok1
  have hm:Cu.msg 2 9 ⟨s,0,0⟩=(({ mg0 with kind:=9,id:=id,obj:=w1 }:Mg),(⟨c1.s,c1.a,w2⟩:Cu)):=by simp only [Cu.msg,Cu.mbody,h0,↓reduceIte,n21,hn];try rfl
  rw [hm]
  simp only
  have hen:=ref01_End (⟨c1.s,c1.a,w2⟩:Cu).s (⟨c1.s,c1.a,w2⟩:Cu).a (⟨c1.s,c1.a,w2⟩:Cu).e okn
  rw [show Cu.fin ⟨(⟨c1.s,c1.a,w2⟩:Cu).s,(⟨c1.s,c1.a,w2⟩:Cu).a,(⟨c1.s,c1.a,w2⟩:Cu).e⟩=Cu.fin (⟨c1.s,c1.a,w2⟩:Cu) from rfl] at hen
  generalize Cu.fin (⟨c1.s,c1.a,w2⟩:Cu)=d at *
  clear hm h0 hn
  by_cases hd:d.e=0
  ·rw [if_neg (by simpa using hd)]
   rw [hd] at hen ⊢
   focus (have kk1:=uN [] hh;have kk2:=uN [1] hvt;have kk3:=uN [1] t0;have kk4:=uN [] hdc;have kk5:=uN [1] hen;(repeat' (first|refine G ?_|refine AW.ret ?_|(refine GC ?_ ?_<;>intro h<;>(try simp only [hsB] at h)<;>try exact xf)|(refine GL ?_ ?_<;>intro h<;>(try simp only [hsN] at h)<;>(try simp only [h])<;>(try simp only [hsB] at h)<;>try exact xf)|fail));all_goals clear kk1 kk2 kk3 kk4 kk5)
   all_goals first|exact RetQ.r (xs:=[.a [.d (.s (.int .u8 9)),.d (.s (.int .u64 (id:Nat))),.d De,.d Df,.d (.s (.string ⟨(w1.key).toArray⟩)),.d (.l w1.sibs.length (sbsD w1.sibs)),.d De,.d Dn,.d Dn,.d Dn,.d Df,.d De,.d De,.d De,.d Df,.d Dn,.d Dn,.d Dn,.d D0,.d De],iv .i64 0]) 0 rfl (Nat.le_of_ble_eq_true rfl) rfl rfl ⟨rfl,rfl⟩|exact RetQ.fr 0|exact RetQ.fn 0|exact xg
  ·rw [if_pos hd]
   (have kk1:=uN [] hh;have kk2:=uN [1] hvt;have kk3:=uN [1] t0;have kk4:=uN [] hdc;have kk5:=uN [1] hen;exact Wd0)
 ·rw [if_neg hb] at hn
  have hm:Cu.msg 2 9 ⟨s,0,0⟩=(({ mg0 with kind:=9,id:=id }:Mg),c1):=by simp only [Cu.msg,Cu.mbody,h0,↓reduceIte,n21,hn];try rfl
  rw [hm]
  simp only
  have hen:=ref01_End c1.s c1.a c1.e ok1
  rw [show Cu.fin ⟨c1.s,c1.a,c1.e⟩=Cu.fin c1 from rfl] at hen
  generalize Cu.fin c1=d at *
  clear hm h0 hn
  by_cases hd:d.e=0
  ·rw [if_neg (by simpa using hd)]
   rw [hd] at hen ⊢
   focus (have kk1:=uN [] hh;have kk2:=uN [1] hvt;have kk3:=uN [1] t0;have kk4:=uN [1] hen;(repeat' (first|refine G ?_|refine AW.ret ?_|(refine GC ?_ ?_<;>intro h<;>(try simp only [hsB] at h)<;>try exact xf)|(refine GL ?_ ?_<;>intro h<;>(try simp only [hsN] at h)<;>(try simp only [h])<;>(try simp only [hsB] at h)<;>try exact xf)|fail));all_goals clear kk1 kk2 kk3 kk4)
   all_goals first|exact RetQ.r (xs:=[.a [.d (.s (.int .u8 9)),.d (.s (.int .u64 (id:Nat))),.d De,.d Df,.d De,.d Dn,.d De,.d Dn,.d Dn,.d Dn,.d Df,.d De,.d De,.d De,.d Df,.d Dn,.d Dn,.d Dn,.d D0,.d De],iv .i64 0]) 0 rfl (Nat.le_of_ble_eq_true rfl) rfl rfl ⟨rfl,rfl⟩|exact RetQ.fr 0|exact RetQ.fn 0|exact xg
  ·rw [if_pos hd]
   (have kk1:=uN [] hh;have kk2:=uN [1] hvt;have kk3:=uN [1] t0;have kk4:=uN [1] hen;exact Wd0)
theorem ref23_Decode(v k:Nat)(s:List UInt8)(hv:v<256)(hk:k<256)(hs:s.length≤140737488351232):AC Tryz.prog 10 [iv .u8 (v:Nat),iv .u8 (k:Nat),sv (bs s)] [] fun y σ=>y=.t [mgV (msgw v k s).1,iv .i64 (msgw v k s).2]∧σ=[]:=by
 cases hh:has v k with
 | false=>exact rdecode_none v k s hv hk hh
 | true=>
  rcases has_cases hh with ⟨rfl,rfl|rfl|rfl⟩|⟨rfl,rfl|rfl|rfl|rfl|rfl|rfl|rfl|rfl|rfl⟩
  ·exact rdecode_11 s hs
  ·exact rdecode_12 s hs
  ·exact rdecode_18 s hs
  ·exact rdecode_21 s hs
  ·exact rdecode_22 s hs
  ·exact rdecode_23 s hs
  ·exact rdecode_24 s hs
  ·exact rdecode_25 s hs
  ·exact rdecode_26 s hs
  ·exact rdecode_27 s hs
  ·exact rdecode_28 s hs
  ·exact rdecode_29 s hs
theorem msgw_fits(v k:Nat)(s:List UInt8)(hs:s.length≤65536):(msgw v k s).1.fits:=by
 by_cases h:(msgw v k s).2=0
 ·obtain ⟨h1,h2,h3,_,_⟩:=msgw_back hs h
  exact Mg.fits_of (by rw [h2.1];exact h1) h2.2.1 h2.2.2.1 h2.2.2.2.1 h3
 ·rw [msgw_bad h];exact mg0_fits
end Go.AW
