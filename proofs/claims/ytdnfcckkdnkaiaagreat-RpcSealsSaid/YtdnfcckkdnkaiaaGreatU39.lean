/-
  messages, the document's: what it is read as.
-/
import Derived.Test.YtdnfcckkdnkaiaaGreatU31
import Derived.Test.YtdnfcckkdnkaiaaGreatU35
import Derived.Test.YtdnfcckkdnkaiaaGreatU36
import Derived.Test.YtdnfcckkdnkaiaaGreatU38
set_option linter.unusedVariables false
set_option linter.unusedSimpArgs false
set_option maxHeartbeats 4000000
set_option maxRecDepth 10000
namespace Go.AW
open Go Go.Proofs
attribute [local irreducible] thenQ blockQ RetQ AL AW AC AOp
theorem rdecode_none(v k:Nat)(s:List UInt8)(hv:v<256)(hk:k<256)(h:has v k=false):AC Tryz.prog 10 [iv .u8 (v:Nat),iv .u8 (k:Nat),sv (bs s)] [] fun y σ=>y=.t [mgV (msgw v k s).1,iv .i64 (msgw v k s).2]∧σ=[]:=by
 refine AC.wk Tryz.func10 ?_
 have hh:=ref23_Has v k hv hk
 rw [h] at hh
 have hr:msgw v k s=(mg0,if v≠1∧v≠2 then 10 else 11):=by
  unfold msgw
  by_cases h0:v≠1∧v≠2
  ·rw [if_pos h0,if_pos h0]
  ·rw [if_neg h0,if_pos h,if_neg h0]
 rw [hr]
 clear hr
 by_cases h0:v≠1∧v≠2
 ·rw [if_pos h0]
  obtain ⟨h1,h2⟩:=h0
  (have kk1:=uN [] hh;exact Wd0)
 ·rw [if_neg h0]
  (have kk1:=uN [] hh;exact Wd0)
theorem rdecode_11(s:List UInt8)(hs:s.length≤140737488351232):AC Tryz.prog 10 [iv .u8 1,iv .u8 1,sv (bs s)] [] fun y σ=>y=.t [mgV (msgw 1 1 s).1,iv .i64 (msgw 1 1 s).2]∧σ=[]:=by
 refine AC.wk Tryz.func10 ?_
 have hok0:Cu.Ok ⟨s,0,0⟩:=⟨hs,Nat.zero_le _⟩
 have hh:=ref23_Has 1 1 (by decide) (by decide)
 rw [show has 1 1=true from rfl] at hh
 have hvt:=ref03_Take s 0 0 hok0
 have ok0:(Cu.vtake ⟨s,0,0⟩).2.Ok:=Cu.vtake_ok hok0
 have hrw:msgw 1 1 s=(if (Cu.msg 1 1 ⟨s,0,0⟩).2.fin.e≠0 then mg0 else (Cu.msg 1 1 ⟨s,0,0⟩).1,(Cu.msg 1 1 ⟨s,0,0⟩).2.fin.e):=msgw_has rfl s
 rw [hrw]
 clear hrw
 generalize h0:Cu.vtake ⟨s,0,0⟩=z at *
 obtain ⟨id,c0⟩:=z
 simp only at hvt ok0
 have t0:=ref06_Take c0.s c0.a c0.e 128 ok0 (by decide)
 have ok1:(Cu.blob c0 128).2.Ok:=Cu.blob_ok ok0
 rw [show Cu.blob ⟨c0.s,c0.a,c0.e⟩ 128=Cu.blob c0 128 from rfl] at t0
 generalize hz0:Cu.blob c0 128=z at *
 obtain ⟨v0,c1⟩:=z
 simp only at t0 ok1
 obtain ⟨q,hq⟩:∃ q,q=gd (decide (v0≠[])) 14 c1:=⟨_,rfl⟩
 have oky:Cu.okey c0=(v0,q):=by unfold Cu.okey;rw [hz0,hq]
 have okq:q.Ok:=by rw [hq];exact gd_ok ok1
 clear hz0
 have hcase:(v0≠[]∧q=c1)∨(v0=[]∧c1.e=0∧q=⟨c1.s,c1.a,14⟩)∨(v0=[]∧c1.e≠0∧q=c1):=by
  by_cases hk0:v0=[]
  ·rw [decide_eq_false (by simpa using hk0)] at hq
   have hq:q=c1.fail 14:=hq
   by_cases he1:c1.e=0
   ·refine .inr (.inl ⟨hk0,he1,?_⟩);rw [hq];unfold Cu.fail;rw [if_pos he1]
   ·exact .inr (.inr ⟨hk0,he1,by rw [hq];exact Cu.fail_stuck he1 14⟩)
  ·rw [decide_eq_true hk0] at hq;exact .inl ⟨hk0,hq⟩
 clear hq
 rcases hcase with ⟨hk0,rfl⟩|⟨rfl,he1,rfl⟩|⟨rfl,he1,rfl⟩
 ·have hl0:v0.length≠0:=fun h=>hk0 (List.length_eq_zero_iff.1 h)
  have hm:Cu.msg 1 1 ⟨s,0,0⟩=(({ mg0 with kind:=1,id:=id,key:=v0 }:Mg),q):=by simp only [Cu.msg,Cu.mbody,h0,oky]
  rw [hm]
  simp only
  have hen:=ref01_End q.s q.a q.e okq
  rw [show Cu.fin ⟨q.s,q.a,q.e⟩=Cu.fin q from rfl] at hen
  generalize Cu.fin q=d at *
  clear hm h0 oky
  by_cases hd:d.e=0
  ·rw [if_neg (by simpa using hd)]
   rw [hd] at hen ⊢
   focus (have kk1:=uN [] hh;have kk2:=uN [1] hvt;have kk3:=uN [1] t0;have kk4:=uN [1] hen;(repeat' (first|refine G ?_|refine AW.ret ?_|(refine GC ?_ ?_<;>intro h<;>(try simp only [hsB] at h)<;>try exact xf)|(refine GL ?_ ?_<;>intro h<;>(try simp only [hsN] at h)<;>(try simp only [h])<;>(try simp only [hsB] at h)<;>try exact xf)|fail));all_goals clear kk1 kk2 kk3 kk4)
   all_goals first|exact RetQ.r (xs:=[.a [.d (.s (.int .u8 1)),.d (.s (.int .u64 (id:Nat))),.d (.s (.string ⟨(v0).toArray⟩)),.d Df,.d De,.d Dn,.d De,.d Dn,.d Dn,.d Dn,.d Df,.d De,.d De,.d De,.d Df,.d Dn,.d Dn,.d Dn,.d D0,.d De],iv .i64 0]) 0 rfl (Nat.le_of_ble_eq_true rfl) rfl rfl ⟨rfl,rfl⟩|exact RetQ.fr 0|exact RetQ.fn 0|exact xg
  ·rw [if_pos hd]
   (have kk1:=uN [] hh;have kk2:=uN [1] hvt;have kk3:=uN [1] t0;have kk4:=uN [1] hen;exact Wd0)
 ·have hl0:True:=trivial
  have hm:Cu.msg 1 1 ⟨s,0,0⟩=(({ mg0 with kind:=1,id:=id,key:=([]:List UInt8) }:Mg),(⟨c1.s,c1.a,14⟩:Cu)):=by simp only [Cu.msg,Cu.mbody,h0,oky]
  rw [hm]
  simp only
  have hen:=ref01_End (⟨c1.s,c1.a,14⟩:Cu).s (⟨c1.s,c1.a,14⟩:Cu).a (⟨c1.s,c1.a,14⟩:Cu).e okq
  rw [show Cu.fin ⟨(⟨c1.s,c1.a,14⟩:Cu).s,(⟨c1.s,c1.a,14⟩:Cu).a,(⟨c1.s,c1.a,14⟩:Cu).e⟩=Cu.fin (⟨c1.s,c1.a,14⟩:Cu) from rfl] at hen
  generalize Cu.fin (⟨c1.s,c1.a,14⟩:Cu)=d at *
  clear hm h0 oky
  by_cases hd:d.e=0
  ·rw [if_neg (by simpa using hd)]
   rw [hd] at hen ⊢
   focus (have kk1:=uN [] hh;have kk2:=uN [1] hvt;have kk3:=uN [1] t0;have kk4:=uN [1] hen;(repeat' (first|refine G ?_|refine AW.ret ?_|(refine GC ?_ ?_<;>intro h<;>(try simp only [hsB] at h)<;>try exact xf)|(refine GL ?_ ?_<;>intro h<;>(try simp only [hsN] at h)<;>(try simp only [h])<;>(try simp only [hsB] at h)<;>try exact xf)|fail));all_goals clear kk1 kk2 kk3 kk4)
   all_goals first|exact RetQ.r (xs:=[.a [.d (.s (.int .u8 1)),.d (.s (.int .u64 (id:Nat))),.d (.s (.string ⟨(([]:List UInt8)).toArray⟩)),.d Df,.d De,.d Dn,.d De,.d Dn,.d Dn,.d Dn,.d Df,.d De,.d De,.d De,.d Df,.d Dn,.d Dn,.d Dn,.d D0,.d De],iv .i64 0]) 0 rfl (Nat.le_of_ble_eq_true rfl) rfl rfl ⟨rfl,rfl⟩|exact RetQ.fr 0|exact RetQ.fn 0|exact xg
  ·rw [if_pos hd]
   (have kk1:=uN [] hh;have kk2:=uN [1] hvt;have kk3:=uN [1] t0;have kk4:=uN [1] hen;exact Wd0)
 ·have hl0:True:=trivial
  have hm:Cu.msg 1 1 ⟨s,0,0⟩=(({ mg0 with kind:=1,id:=id,key:=([]:List UInt8) }:Mg),q):=by simp only [Cu.msg,Cu.mbody,h0,oky]
  rw [hm]
  simp only
  have hen:=ref01_End q.s q.a q.e okq
  rw [show Cu.fin ⟨q.s,q.a,q.e⟩=Cu.fin q from rfl] at hen
  generalize Cu.fin q=d at *
  clear hm h0 oky
  by_cases hd:d.e=0
  ·rw [if_neg (by simpa using hd)]
   rw [hd] at hen ⊢
   focus (have kk1:=uN [] hh;have kk2:=uN [1] hvt;have kk3:=uN [1] t0;have kk4:=uN [1] hen;(repeat' (first|refine G ?_|refine AW.ret ?_|(refine GC ?_ ?_<;>intro h<;>(try simp only [hsB] at h)<;>try exact xf)|(refine GL ?_ ?_<;>intro h<;>(try simp only [hsN] at h)<;>(try simp only [h])<;>(try simp only [hsB] at h)<;>try exact xf)|fail));all_goals clear kk1 kk2 kk3 kk4)
   all_goals first|exact RetQ.r (xs:=[.a [.d (.s (.int .u8 1)),.d (.s (.int .u64 (id:Nat))),.d (.s (.string ⟨(([]:List UInt8)).toArray⟩)),.d Df,.d De,.d Dn,.d De,.d Dn,.d Dn,.d Dn,.d Df,.d De,.d De,.d De,.d Df,.d Dn,.d Dn,.d Dn,.d D0,.d De],iv .i64 0]) 0 rfl (Nat.le_of_ble_eq_true rfl) rfl rfl ⟨rfl,rfl⟩|exact RetQ.fr 0|exact RetQ.fn 0|exact xg
  ·rw [if_pos hd]
   (have kk1:=uN [] hh;have kk2:=uN [1] hvt;have kk3:=uN [1] t0;have kk4:=uN [1] hen;exact Wd0)
theorem rdecode_12(s:List UInt8)(hs:s.length≤140737488351232):AC Tryz.prog 10 [iv .u8 1,iv .u8 2,sv (bs s)] [] fun y σ=>y=.t [mgV (msgw 1 2 s).1,iv .i64 (msgw 1 2 s).2]∧σ=[]:=by
 refine AC.wk Tryz.func10 ?_
 have hok0:Cu.Ok ⟨s,0,0⟩:=⟨hs,Nat.zero_le _⟩
 have hh:=ref23_Has 1 2 (by decide) (by decide)
 rw [show has 1 2=true from rfl] at hh
 have hvt:=ref03_Take s 0 0 hok0
 have ok0:(Cu.vtake ⟨s,0,0⟩).2.Ok:=Cu.vtake_ok hok0
 have hrw:msgw 1 2 s=(if (Cu.msg 1 2 ⟨s,0,0⟩).2.fin.e≠0 then mg0 else (Cu.msg 1 2 ⟨s,0,0⟩).1,(Cu.msg 1 2 ⟨s,0,0⟩).2.fin.e):=msgw_has rfl s
 rw [hrw]
 clear hrw
 generalize h0:Cu.vtake ⟨s,0,0⟩=z at *
 obtain ⟨id,c0⟩:=z
 simp only at hvt ok0
 have t0:=ref06_Flag c0.s c0.a c0.e ok0
 have ok1:(Cu.flag c0).2.Ok:=Cu.flag_ok ok0
 rw [show Cu.flag ⟨c0.s,c0.a,c0.e⟩=Cu.flag c0 from rfl] at t0
 generalize hz0:Cu.flag c0=z at *
 obtain ⟨v0,c1⟩:=z
 simp only at t0 ok1
 cases v0 with
 | true=>
  have hbl:=blob_le64 c1
  have hn:Cu.nest Cu.old od0 c1=if (Cu.blob c1 65536).2.e=0 then ((oldw (Cu.blob c1 65536).1).1,(Cu.blob c1 65536).2.fail (oldw (Cu.blob c1 65536).1).2) else (od0,(Cu.blob c1 65536).2):=rfl
  have t1:=ref06_Take c1.s c1.a c1.e 65536 ok1 (by decide)
  have ok2:(Cu.blob c1 65536).2.Ok:=Cu.blob_ok ok1
  rw [show Cu.blob ⟨c1.s,c1.a,c1.e⟩ 65536=Cu.blob c1 65536 from rfl] at t1
  generalize hz1:Cu.blob c1 65536=z at *
  obtain ⟨v1,c2⟩:=z
  simp only at t1 ok2
  simp only at hn hbl
  clear hz1
  by_cases hb:c2.e=0
  ·rw [if_pos hb] at hn
   have hdc:=ref17_Decode v1 (by omega)
   have hfe:c2.fail (oldw v1).2=⟨c2.s,c2.a,(oldw v1).2⟩:=by unfold Cu.fail;rw [if_pos hb]
   rw [hfe] at hn
   clear hfe
   generalize oldw v1=w at *
   obtain ⟨w1,w2⟩:=w
   simp only at hdc hn
   have okn:Cu.Ok ⟨c2.s,c2.a,w2⟩:=ok2
   have hm:Cu.msg 1 2 ⟨s,0,0⟩=(({ mg0 with kind:=2,id:=id,found:=true,old:=w1 }:Mg),(⟨c2.s,c2.a,w2⟩:Cu)):=by simp only [Cu.msg,Cu.mbody,h0,hz0,↓reduceIte,n21,hn];try rfl
   rw [hm]
   simp only
   have hen:=ref01_End (⟨c2.s,c2.a,w2⟩:Cu).s (⟨c2.s,c2.a,w2⟩:Cu).a (⟨c2.s,c2.a,w2⟩:Cu).e okn
   rw [show Cu.fin ⟨(⟨c2.s,c2.a,w2⟩:Cu).s,(⟨c2.s,c2.a,w2⟩:Cu).a,(⟨c2.s,c2.a,w2⟩:Cu).e⟩=Cu.fin (⟨c2.s,c2.a,w2⟩:Cu) from rfl] at hen
   generalize Cu.fin (⟨c2.s,c2.a,w2⟩:Cu)=d at *
   clear hm h0 hn hz0
   by_cases hd:d.e=0
   ·rw [if_neg (by simpa using hd)]
    rw [hd] at hen ⊢
    focus (have kk1:=uN [] hh;have kk2:=uN [1] hvt;have kk3:=uN [1] t0;have kk4:=uN [1] t1;have kk5:=uN [] hdc;have kk6:=uN [1] hen;(repeat' (first|refine G ?_|refine AW.ret ?_|(refine GC ?_ ?_<;>intro h<;>(try simp only [hsB] at h)<;>try exact xf)|(refine GL ?_ ?_<;>intro h<;>(try simp only [hsN] at h)<;>(try simp only [h])<;>(try simp only [hsB] at h)<;>try exact xf)|fail));all_goals clear kk1 kk2 kk3 kk4 kk5 kk6)
    all_goals first|exact RetQ.r (xs:=[.a [.d (.s (.int .u8 2)),.d (.s (.int .u64 (id:Nat))),.d De,.d (.s (.bool true)),.d De,.d Dn,.d (.s (.string ⟨(w1.key).toArray⟩)),.d (.l w1.sibs.length (ossD w1.sibs)),.d Dn,.d Dn,.d Df,.d De,.d De,.d De,.d Df,.d Dn,.d Dn,.d Dn,.d D0,.d De],iv .i64 0]) 0 rfl (Nat.le_of_ble_eq_true rfl) rfl rfl ⟨rfl,rfl⟩|exact RetQ.fr 0|exact RetQ.fn 0|exact xg
   ·rw [if_pos hd]
    (have kk1:=uN [] hh;have kk2:=uN [1] hvt;have kk3:=uN [1] t0;have kk4:=uN [1] t1;have kk5:=uN [] hdc;have kk6:=uN [1] hen;exact Wd0)
  ·rw [if_neg hb] at hn
   have hm:Cu.msg 1 2 ⟨s,0,0⟩=(({ mg0 with kind:=2,id:=id,found:=true }:Mg),c2):=by simp only [Cu.msg,Cu.mbody,h0,hz0,↓reduceIte,n21,hn];try rfl
   rw [hm]
   simp only
   have hen:=ref01_End c2.s c2.a c2.e ok2
   rw [show Cu.fin ⟨c2.s,c2.a,c2.e⟩=Cu.fin c2 from rfl] at hen
   generalize Cu.fin c2=d at *
   clear hm h0 hn hz0
   by_cases hd:d.e=0
   ·rw [if_neg (by simpa using hd)]
    rw [hd] at hen ⊢
    focus (have kk1:=uN [] hh;have kk2:=uN [1] hvt;have kk3:=uN [1] t0;have kk4:=uN [1] t1;have kk5:=uN [1] hen;(repeat' (first|refine G ?_|refine AW.ret ?_|(refine GC ?_ ?_<;>intro h<;>(try simp only [hsB] at h)<;>try exact xf)|(refine GL ?_ ?_<;>intro h<;>(try simp only [hsN] at h)<;>(try simp only [h])<;>(try simp only [hsB] at h)<;>try exact xf)|fail));all_goals clear kk1 kk2 kk3 kk4 kk5)
    all_goals first|exact RetQ.r (xs:=[.a [.d (.s (.int .u8 2)),.d (.s (.int .u64 (id:Nat))),.d De,.d (.s (.bool true)),.d De,.d Dn,.d De,.d Dn,.d Dn,.d Dn,.d Df,.d De,.d De,.d De,.d Df,.d Dn,.d Dn,.d Dn,.d D0,.d De],iv .i64 0]) 0 rfl (Nat.le_of_ble_eq_true rfl) rfl rfl ⟨rfl,rfl⟩|exact RetQ.fr 0|exact RetQ.fn 0|exact xg
   ·rw [if_pos hd]
    (have kk1:=uN [] hh;have kk2:=uN [1] hvt;have kk3:=uN [1] t0;have kk4:=uN [1] t1;have kk5:=uN [1] hen;exact Wd0)
 | false=>
  have hm:Cu.msg 1 2 ⟨s,0,0⟩=(({ mg0 with kind:=2,id:=id }:Mg),c1):=by simp only [Cu.msg,Cu.mbody,h0,hz0,↓reduceIte,n21,Bool.false_eq_true];try rfl
  rw [hm]
  simp only
  have hen:=ref01_End c1.s c1.a c1.e ok1
  rw [show Cu.fin ⟨c1.s,c1.a,c1.e⟩=Cu.fin c1 from rfl] at hen
  generalize Cu.fin c1=d at *
  clear hm h0 hz0
  by_cases hd:d.e=0
  ·rw [if_neg (by simpa using hd)]
   rw [hd] at hen ⊢
   focus (have kk1:=uN [] hh;have kk2:=uN [1] hvt;have kk3:=uN [1] t0;have kk4:=uN [1] hen;(repeat' (first|refine G ?_|refine AW.ret ?_|(refine GC ?_ ?_<;>intro h<;>(try simp only [hsB] at h)<;>try exact xf)|(refine GL ?_ ?_<;>intro h<;>(try simp only [hsN] at h)<;>(try simp only [h])<;>(try simp only [hsB] at h)<;>try exact xf)|fail));all_goals clear kk1 kk2 kk3 kk4)
   all_goals first|exact RetQ.r (xs:=[.a [.d (.s (.int .u8 2)),.d (.s (.int .u64 (id:Nat))),.d De,.d Df,.d De,.d Dn,.d De,.d Dn,.d Dn,.d Dn,.d Df,.d De,.d De,.d De,.d Df,.d Dn,.d Dn,.d Dn,.d D0,.d De],iv .i64 0]) 0 rfl (Nat.le_of_ble_eq_true rfl) rfl rfl ⟨rfl,rfl⟩|exact RetQ.fr 0|exact RetQ.fn 0|exact xg
  ·rw [if_pos hd]
   (have kk1:=uN [] hh;have kk2:=uN [1] hvt;have kk3:=uN [1] t0;have kk4:=uN [1] hen;exact Wd0)
theorem rdecode_18(s:List UInt8)(hs:s.length≤140737488351232):AC Tryz.prog 10 [iv .u8 1,iv .u8 8,sv (bs s)] [] fun y σ=>y=.t [mgV (msgw 1 8 s).1,iv .i64 (msgw 1 8 s).2]∧σ=[]:=by
 refine AC.wk Tryz.func10 ?_
 have hok0:Cu.Ok ⟨s,0,0⟩:=⟨hs,Nat.zero_le _⟩
 have hh:=ref23_Has 1 8 (by decide) (by decide)
 rw [show has 1 8=true from rfl] at hh
 have hvt:=ref03_Take s 0 0 hok0
 have ok0:(Cu.vtake ⟨s,0,0⟩).2.Ok:=Cu.vtake_ok hok0
 have hrw:msgw 1 8 s=(if (Cu.msg 1 8 ⟨s,0,0⟩).2.fin.e≠0 then mg0 else (Cu.msg 1 8 ⟨s,0,0⟩).1,(Cu.msg 1 8 ⟨s,0,0⟩).2.fin.e):=msgw_has rfl s
 rw [hrw]
 clear hrw
 generalize h0:Cu.vtake ⟨s,0,0⟩=z at *
 obtain ⟨id,c0⟩:=z
 simp only at hvt ok0
 have t0:=ref06_Count c0.s c0.a c0.e 255 ok0 (by decide)
 have ok1:(Cu.count c0 255).2.Ok:=Cu.count_ok ok0
 rw [show Cu.count ⟨c0.s,c0.a,c0.e⟩ 255=Cu.count c0 255 from rfl] at t0
 generalize hz0:Cu.count c0 255=z at *
 obtain ⟨v0,c1⟩:=z
 simp only at t0 ok1
 have t1:=ref06_Take c1.s c1.a c1.e 64 ok1 (by decide)
 have ok2:(Cu.blob c1 64).2.Ok:=Cu.blob_ok ok1
 rw [show Cu.blob ⟨c1.s,c1.a,c1.e⟩ 64=Cu.blob c1 64 from rfl] at t1
 generalize hz1:Cu.blob c1 64=z at *
 obtain ⟨v1,c2⟩:=z
 simp only at t1 ok2
 have hm:Cu.msg 1 8 ⟨s,0,0⟩=(({ mg0 with kind:=8,id:=id,code:=(v0:Nat),txt:=v1 }:Mg),c2):=by simp only [Cu.msg,Cu.mbody,h0,hz0,hz1]
 rw [hm]
 simp only
 have hen:=ref01_End c2.s c2.a c2.e ok2
 rw [show Cu.fin ⟨c2.s,c2.a,c2.e⟩=Cu.fin c2 from rfl] at hen
 generalize Cu.fin c2=d at *
 clear hm h0 hz0 hz1
 by_cases hd:d.e=0
 ·rw [if_neg (by simpa using hd)]
  rw [hd] at hen ⊢
  focus (have kk1:=uN [] hh;have kk2:=uN [1] hvt;have kk3:=uN [1] t0;have kk4:=uN [1] t1;have kk5:=uN [1] hen;(repeat' (first|refine G ?_|refine AW.ret ?_|(refine GC ?_ ?_<;>intro h<;>(try simp only [hsB] at h)<;>try exact xf)|(refine GL ?_ ?_<;>intro h<;>(try simp only [hsN] at h)<;>(try simp only [h])<;>(try simp only [hsB] at h)<;>try exact xf)|fail));all_goals clear kk1 kk2 kk3 kk4 kk5)
  all_goals first|exact RetQ.r (xs:=[.a [.d (.s (.int .u8 8)),.d (.s (.int .u64 (id:Nat))),.d De,.d Df,.d De,.d Dn,.d De,.d Dn,.d Dn,.d Dn,.d Df,.d De,.d De,.d De,.d Df,.d Dn,.d Dn,.d Dn,.d (.s (.int .i64 (v0:Nat))),.d (.s (.string ⟨(v1).toArray⟩))],iv .i64 0]) 0 rfl (Nat.le_of_ble_eq_true rfl) rfl rfl ⟨rfl,rfl⟩|exact RetQ.fr 0|exact RetQ.fn 0|exact xg
 ·rw [if_pos hd]
  (have kk1:=uN [] hh;have kk2:=uN [1] hvt;have kk3:=uN [1] t0;have kk4:=uN [1] t1;have kk5:=uN [1] hen;exact Wd0)
theorem rdecode_21(s:List UInt8)(hs:s.length≤140737488351232):AC Tryz.prog 10 [iv .u8 2,iv .u8 1,sv (bs s)] [] fun y σ=>y=.t [mgV (msgw 2 1 s).1,iv .i64 (msgw 2 1 s).2]∧σ=[]:=by
 refine AC.wk Tryz.func10 ?_
 have hok0:Cu.Ok ⟨s,0,0⟩:=⟨hs,Nat.zero_le _⟩
 have hh:=ref23_Has 2 1 (by decide) (by decide)
 rw [show has 2 1=true from rfl] at hh
 have hvt:=ref03_Take s 0 0 hok0
 have ok0:(Cu.vtake ⟨s,0,0⟩).2.Ok:=Cu.vtake_ok hok0
 have hrw:msgw 2 1 s=(if (Cu.msg 2 1 ⟨s,0,0⟩).2.fin.e≠0 then mg0 else (Cu.msg 2 1 ⟨s,0,0⟩).1,(Cu.msg 2 1 ⟨s,0,0⟩).2.fin.e):=msgw_has rfl s
 rw [hrw]
 clear hrw
 generalize h0:Cu.vtake ⟨s,0,0⟩=z at *
 obtain ⟨id,c0⟩:=z
 simp only at hvt ok0
 have t0:=ref06_Take c0.s c0.a c0.e 128 ok0 (by decide)
 have ok1:(Cu.blob c0 128).2.Ok:=Cu.blob_ok ok0
 rw [show Cu.blob ⟨c0.s,c0.a,c0.e⟩ 128=Cu.blob c0 128 from rfl] at t0
 generalize hz0:Cu.blob c0 128=z at *
 obtain ⟨v0,c1⟩:=z
 simp only at t0 ok1
 obtain ⟨q,hq⟩:∃ q,q=gd (decide (v0≠[])) 14 c1:=⟨_,rfl⟩
 have oky:Cu.okey c0=(v0,q):=by unfold Cu.okey;rw [hz0,hq]
 have okq:q.Ok:=by rw [hq];exact gd_ok ok1
 clear hz0
 have hcase:(v0≠[]∧q=c1)∨(v0=[]∧c1.e=0∧q=⟨c1.s,c1.a,14⟩)∨(v0=[]∧c1.e≠0∧q=c1):=by
  by_cases hk0:v0=[]
  ·rw [decide_eq_false (by simpa using hk0)] at hq
   have hq:q=c1.fail 14:=hq
   by_cases he1:c1.e=0
   ·refine .inr (.inl ⟨hk0,he1,?_⟩);rw [hq];unfold Cu.fail;rw [if_pos he1]
   ·exact .inr (.inr ⟨hk0,he1,by rw [hq];exact Cu.fail_stuck he1 14⟩)
  ·rw [decide_eq_true hk0] at hq;exact .inl ⟨hk0,hq⟩
 clear hq
 rcases hcase with ⟨hk0,rfl⟩|⟨rfl,he1,rfl⟩|⟨rfl,he1,rfl⟩
 ·have hl0:v0.length≠0:=fun h=>hk0 (List.length_eq_zero_iff.1 h)
  have hm:Cu.msg 2 1 ⟨s,0,0⟩=(({ mg0 with kind:=1,id:=id,key:=v0 }:Mg),q):=by simp only [Cu.msg,Cu.mbody,h0,oky]
  rw [hm]
  simp only
  have hen:=ref01_End q.s q.a q.e okq
  rw [show Cu.fin ⟨q.s,q.a,q.e⟩=Cu.fin q from rfl] at hen
  generalize Cu.fin q=d at *
  clear hm h0 oky
  by_cases hd:d.e=0
  ·rw [if_neg (by simpa using hd)]
   rw [hd] at hen ⊢
   focus (have kk1:=uN [] hh;have kk2:=uN [1] hvt;have kk3:=uN [1] t0;have kk4:=uN [1] hen;(repeat' (first|refine G ?_|refine AW.ret ?_|(refine GC ?_ ?_<;>intro h<;>(try simp only [hsB] at h)<;>try exact xf)|(refine GL ?_ ?_<;>intro h<;>(try simp only [hsN] at h)<;>(try simp only [h])<;>(try simp only [hsB] at h)<;>try exact xf)|fail));all_goals clear kk1 kk2 kk3 kk4)
   all_goals first|exact RetQ.r (xs:=[.a [.d (.s (.int .u8 1)),.d (.s (.int .u64 (id:Nat))),.d (.s (.string ⟨(v0).toArray⟩)),.d Df,.d De,.d Dn,.d De,.d Dn,.d Dn,.d Dn,.d Df,.d De,.d De,.d De,.d Df,.d Dn,.d Dn,.d Dn,.d D0,.d De],iv .i64 0]) 0 rfl (Nat.le_of_ble_eq_true rfl) rfl rfl ⟨rfl,rfl⟩|exact RetQ.fr 0|exact RetQ.fn 0|exact xg
  ·rw [if_pos hd]
   (have kk1:=uN [] hh;have kk2:=uN [1] hvt;have kk3:=uN [1] t0;have kk4:=uN [1] hen;exact Wd0)
 ·have hl0:True:=trivial
  have hm:Cu.msg 2 1 ⟨s,0,0⟩=(({ mg0 with kind:=1,id:=id,key:=([]:List UInt8) }:Mg),(⟨c1.s,c1.a,14⟩:Cu)):=by simp only [Cu.msg,Cu.mbody,h0,oky]
  rw [hm]
  simp only
  have hen:=ref01_End (⟨c1.s,c1.a,14⟩:Cu).s (⟨c1.s,c1.a,14⟩:Cu).a (⟨c1.s,c1.a,14⟩:Cu).e okq
  rw [show Cu.fin ⟨(⟨c1.s,c1.a,14⟩:Cu).s,(⟨c1.s,c1.a,14⟩:Cu).a,(⟨c1.s,c1.a,14⟩:Cu).e⟩=Cu.fin (⟨c1.s,c1.a,14⟩:Cu) from rfl] at hen
  generalize Cu.fin (⟨c1.s,c1.a,14⟩:Cu)=d at *
  clear hm h0 oky
  by_cases hd:d.e=0
  ·rw [if_neg (by simpa using hd)]
   rw [hd] at hen ⊢
   focus (have kk1:=uN [] hh;have kk2:=uN [1] hvt;have kk3:=uN [1] t0;have kk4:=uN [1] hen;(repeat' (first|refine G ?_|refine AW.ret ?_|(refine GC ?_ ?_<;>intro h<;>(try simp only [hsB] at h)<;>try exact xf)|(refine GL ?_ ?_<;>intro h<;>(try simp only [hsN] at h)<;>(try simp only [h])<;>(try simp only [hsB] at h)<;>try exact xf)|fail));all_goals clear kk1 kk2 kk3 kk4)
   all_goals first|exact RetQ.r (xs:=[.a [.d (.s (.int .u8 1)),.d (.s (.int .u64 (id:Nat))),.d (.s (.string ⟨(([]:List UInt8)).toArray⟩)),.d Df,.d De,.d Dn,.d De,.d Dn,.d Dn,.d Dn,.d Df,.d De,.d De,.d De,.d Df,.d Dn,.d Dn,.d Dn,.d D0,.d De],iv .i64 0]) 0 rfl (Nat.le_of_ble_eq_true rfl) rfl rfl ⟨rfl,rfl⟩|exact RetQ.fr 0|exact RetQ.fn 0|exact xg
  ·rw [if_pos hd]
   (have kk1:=uN [] hh;have kk2:=uN [1] hvt;have kk3:=uN [1] t0;have kk4:=uN [1] hen;exact Wd0)
 ·have hl0:True:=trivial
  have hm:Cu.msg 2 1 ⟨s,0,0⟩=(({ mg0 with kind:=1,id:=id,key:=([]:List UInt8) }:Mg),q):=by simp only [Cu.msg,Cu.mbody,h0,oky]
  rw [hm]
  simp only
  have hen:=ref01_End q.s q.a q.e okq
  rw [show Cu.fin ⟨q.s,q.a,q.e⟩=Cu.fin q from rfl] at hen
  generalize Cu.fin q=d at *
  clear hm h0 oky
  by_cases hd:d.e=0
  ·rw [if_neg (by simpa using hd)]
   rw [hd] at hen ⊢
   focus (have kk1:=uN [] hh;have kk2:=uN [1] hvt;have kk3:=uN [1] t0;have kk4:=uN [1] hen;(repeat' (first|refine G ?_|refine AW.ret ?_|(refine GC ?_ ?_<;>intro h<;>(try simp only [hsB] at h)<;>try exact xf)|(refine GL ?_ ?_<;>intro h<;>(try simp only [hsN] at h)<;>(try simp only [h])<;>(try simp only [hsB] at h)<;>try exact xf)|fail));all_goals clear kk1 kk2 kk3 kk4)
   all_goals first|exact RetQ.r (xs:=[.a [.d (.s (.int .u8 1)),.d (.s (.int .u64 (id:Nat))),.d (.s (.string ⟨(([]:List UInt8)).toArray⟩)),.d Df,.d De,.d Dn,.d De,.d Dn,.d Dn,.d Dn,.d Df,.d De,.d De,.d De,.d Df,.d Dn,.d Dn,.d Dn,.d D0,.d De],iv .i64 0]) 0 rfl (Nat.le_of_ble_eq_true rfl) rfl rfl ⟨rfl,rfl⟩|exact RetQ.fr 0|exact RetQ.fn 0|exact xg
  ·rw [if_pos hd]
   (have kk1:=uN [] hh;have kk2:=uN [1] hvt;have kk3:=uN [1] t0;have kk4:=uN [1] hen;exact Wd0)
theorem rdecode_22(s:List UInt8)(hs:s.length≤140737488351232):AC Tryz.prog 10 [iv .u8 2,iv .u8 2,sv (bs s)] [] fun y σ=>y=.t [mgV (msgw 2 2 s).1,iv .i64 (msgw 2 2 s).2]∧σ=[]:=by
 refine AC.wk Tryz.func10 ?_
 have hok0:Cu.Ok ⟨s,0,0⟩:=⟨hs,Nat.zero_le _⟩
 have hh:=ref23_Has 2 2 (by decide) (by decide)
 rw [show has 2 2=true from rfl] at hh
 have hvt:=ref03_Take s 0 0 hok0
 have ok0:(Cu.vtake ⟨s,0,0⟩).2.Ok:=Cu.vtake_ok hok0
 have hrw:msgw 2 2 s=(if (Cu.msg 2 2 ⟨s,0,0⟩).2.fin.e≠0 then mg0 else (Cu.msg 2 2 ⟨s,0,0⟩).1,(Cu.msg 2 2 ⟨s,0,0⟩).2.fin.e):=msgw_has rfl s
 rw [hrw]
 clear hrw
 generalize h0:Cu.vtake ⟨s,0,0⟩=z at *
 obtain ⟨id,c0⟩:=z
 simp only at hvt ok0
 have t0:=ref06_Flag c0.s c0.a c0.e ok0
 have ok1:(Cu.flag c0).2.Ok:=Cu.flag_ok ok0
 rw [show Cu.flag ⟨c0.s,c0.a,c0.e⟩=Cu.flag c0 from rfl] at t0
 generalize hz0:Cu.flag c0=z at *
 obtain ⟨v0,c1⟩:=z
 simp only at t0 ok1
 cases v0 with
 | true=>
  have hbl:=blob_le64 c1
  have hn:Cu.nest Cu.obj oj0 c1=if (Cu.blob c1 65536).2.e=0 then ((objw (Cu.blob c1 65536).1).1,(Cu.blob c1 65536).2.fail (objw (Cu.blob c1 65536).1).2) else (oj0,(Cu.blob c1 65536).2):=rfl
  have t1:=ref06_Take c1.s c1.a c1.e 65536 ok1 (by decide)
  have ok2:(Cu.blob c1 65536).2.Ok:=Cu.blob_ok ok1
  rw [show Cu.blob ⟨c1.s,c1.a,c1.e⟩ 65536=Cu.blob c1 65536 from rfl] at t1
  generalize hz1:Cu.blob c1 65536=z at *
  obtain ⟨v1,c2⟩:=z
  simp only at t1 ok2
  simp only at hn hbl
  clear hz1
  by_cases hb:c2.e=0
  ·rw [if_pos hb] at hn
   have hdc:=ref16_Decode v1 (by omega)
   have hfe:c2.fail (objw v1).2=⟨c2.s,c2.a,(objw v1).2⟩:=by unfold Cu.fail;rw [if_pos hb]
   rw [hfe] at hn
   clear hfe
   generalize objw v1=w at *
   obtain ⟨w1,w2⟩:=w
   simp only at hdc hn
   have okn:Cu.Ok ⟨c2.s,c2.a,w2⟩:=ok2
   have hm:Cu.msg 2 2 ⟨s,0,0⟩=(({ mg0 with kind:=2,id:=id,found:=true,obj:=w1 }:Mg),(⟨c2.s,c2.a,w2⟩:Cu)):=by simp only [Cu.msg,Cu.mbody,h0,hz0,↓reduceIte,n21,hn];try rfl
   rw [hm]
   simp only
   have hen:=ref01_End (⟨c2.s,c2.a,w2⟩:Cu).s (⟨c2.s,c2.a,w2⟩:Cu).a (⟨c2.s,c2.a,w2⟩:Cu).e okn
   rw [show Cu.fin ⟨(⟨c2.s,c2.a,w2⟩:Cu).s,(⟨c2.s,c2.a,w2⟩:Cu).a,(⟨c2.s,c2.a,w2⟩:Cu).e⟩=Cu.fin (⟨c2.s,c2.a,w2⟩:Cu) from rfl] at hen
   generalize Cu.fin (⟨c2.s,c2.a,w2⟩:Cu)=d at *
   clear hm h0 hn hz0
   by_cases hd:d.e=0
   ·rw [if_neg (by simpa using hd)]
    rw [hd] at hen ⊢
    focus (have kk1:=uN [] hh;have kk2:=uN [1] hvt;have kk3:=uN [1] t0;have kk4:=uN [1] t1;have kk5:=uN [] hdc;have kk6:=uN [1] hen;(repeat' (first|refine G ?_|refine AW.ret ?_|(refine GC ?_ ?_<;>intro h<;>(try simp only [hsB] at h)<;>try exact xf)|(refine GL ?_ ?_<;>intro h<;>(try simp only [hsN] at h)<;>(try simp only [h])<;>(try simp only [hsB] at h)<;>try exact xf)|fail));all_goals clear kk1 kk2 kk3 kk4 kk5 kk6)
    all_goals first|exact RetQ.r (xs:=[.a [.d (.s (.int .u8 2)),.d (.s (.int .u64 (id:Nat))),.d De,.d (.s (.bool true)),.d (.s (.string ⟨(w1.key).toArray⟩)),.d (.l w1.sibs.length (sbsD w1.sibs)),.d De,.d Dn,.d Dn,.d Dn,.d Df,.d De,.d De,.d De,.d Df,.d Dn,.d Dn,.d Dn,.d D0,.d De],iv .i64 0]) 0 rfl (Nat.le_of_ble_eq_true rfl) rfl rfl ⟨rfl,rfl⟩|exact RetQ.fr 0|exact RetQ.fn 0|exact xg
   ·rw [if_pos hd]
    (have kk1:=uN [] hh;have kk2:=uN [1] hvt;have kk3:=uN [1] t0;have kk4:=uN [1] t1;have kk5:=uN [] hdc;have kk6:=uN [1] hen;exact Wd0)
  ·rw [if_neg hb] at hn
   have hm:Cu.msg 2 2 ⟨s,0,0⟩=(({ mg0 with kind:=2,id:=id,found:=true }:Mg),c2):=by simp only [Cu.msg,Cu.mbody,h0,hz0,↓reduceIte,n21,hn];try rfl
   rw [hm]
   simp only
   have hen:=ref01_End c2.s c2.a c2.e ok2
   rw [show Cu.fin ⟨c2.s,c2.a,c2.e⟩=Cu.fin c2 from rfl] at hen
   generalize Cu.fin c2=d at *
   clear hm h0 hn hz0
   by_cases hd:d.e=0
   ·rw [if_neg (by simpa using hd)]
    rw [hd] at hen ⊢
    focus (have kk1:=uN [] hh;have kk2:=uN [1] hvt;have kk3:=uN [1] t0;have kk4:=uN [1] t1;have kk5:=uN [1] hen;(repeat' (first|refine G ?_|refine AW.ret ?_|(refine GC ?_ ?_<;>intro h<;>(try simp only [hsB] at h)<;>try exact xf)|(refine GL ?_ ?_<;>intro h<;>(try simp only [hsN] at h)<;>(try simp only [h])<;>(try simp only [hsB] at h)<;>try exact xf)|fail));all_goals clear kk1 kk2 kk3 kk4 kk5)
    all_goals first|exact RetQ.r (xs:=[.a [.d (.s (.int .u8 2)),.d (.s (.int .u64 (id:Nat))),.d De,.d (.s (.bool true)),.d De,.d Dn,.d De,.d Dn,.d Dn,.d Dn,.d Df,.d De,.d De,.d De,.d Df,.d Dn,.d Dn,.d Dn,.d D0,.d De],iv .i64 0]) 0 rfl (Nat.le_of_ble_eq_true rfl) rfl rfl ⟨rfl,rfl⟩|exact RetQ.fr 0|exact RetQ.fn 0|exact xg
   ·rw [if_pos hd]
    (have kk1:=uN [] hh;have kk2:=uN [1] hvt;have kk3:=uN [1] t0;have kk4:=uN [1] t1;have kk5:=uN [1] hen;exact Wd0)
 | false=>
  have hm:Cu.msg 2 2 ⟨s,0,0⟩=(({ mg0 with kind:=2,id:=id }:Mg),c1):=by simp only [Cu.msg,Cu.mbody,h0,hz0,↓reduceIte,n21,Bool.false_eq_true];try rfl
  rw [hm]
  simp only
  have hen:=ref01_End c1.s c1.a c1.e ok1
  rw [show Cu.fin ⟨c1.s,c1.a,c1.e⟩=Cu.fin c1 from rfl] at hen
  generalize Cu.fin c1=d at *
  clear hm h0 hz0
  by_cases hd:d.e=0
  ·rw [if_neg (by simpa using hd)]
   rw [hd] at hen ⊢
   focus (have kk1:=uN [] hh;have kk2:=uN [1] hvt;have kk3:=uN [1] t0;have kk4:=uN [1] hen;(repeat' (first|refine G ?_|refine AW.ret ?_|(refine GC ?_ ?_<;>intro h<;>(try simp only [hsB] at h)<;>try exact xf)|(refine GL ?_ ?_<;>intro h<;>(try simp only [hsN] at h)<;>(try simp only [h])<;>(try simp only [hsB] at h)<;>try exact xf)|fail));all_goals clear kk1 kk2 kk3 kk4)
   all_goals first|exact RetQ.r (xs:=[.a [.d (.s (.int .u8 2)),.d (.s (.int .u64 (id:Nat))),.d De,.d Df,.d De,.d Dn,.d De,.d Dn,.d Dn,.d Dn,.d Df,.d De,.d De,.d De,.d Df,.d Dn,.d Dn,.d Dn,.d D0,.d De],iv .i64 0]) 0 rfl (Nat.le_of_ble_eq_true rfl) rfl rfl ⟨rfl,rfl⟩|exact RetQ.fr 0|exact RetQ.fn 0|exact xg
  ·rw [if_pos hd]
   (have kk1:=uN [] hh;have kk2:=uN [1] hvt;have kk3:=uN [1] t0;have kk4:=uN [1] hen;exact Wd0)
end Go.AW
