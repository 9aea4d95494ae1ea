/-
  a message's parts: a whole message is read.
-/
import Derived.Test.YtdnfcckkdnkaiaaGreatU13
import Derived.Test.YtdnfcckkdnkaiaaGreatU17
set_option linter.unusedVariables false
set_option linter.unusedSimpArgs false
set_option maxHeartbeats 4000000
set_option maxRecDepth 10000
namespace Go.AW
open Go Go.Proofs
attribute [local irreducible] thenQ blockQ RetQ AL AW AC AOp
theorem blob_le(c:Cu)(n:Nat):(Cu.blob c (n:Int)).1.length≤n:=by
 unfold Cu.blob
 have h1:=bytes_le (c.count n).2 (c.count n).1
 have h2:=Cu.count_max c n
 omega
theorem blob_le64(c:Cu):(Cu.blob c 65536).1.length≤65536:=blob_le c 65536
theorem decode_none(v k:Nat)(s:List UInt8)(hv:v<256)(hk:k<256)(h:has v k=false):AC Tryz.prog 9 [iv .u8 (v:Nat),iv .u8 (k:Nat),sv (bs s)] [] fun y σ=>y=.t [mgV (msgw v k s).1,iv .i64 (msgw v k s).2]∧σ=[]:=by
 refine AC.wk Tryz.func9 ?_
 have hw:=which_none v k hv hk h
 have hr:msgw v k s=(mg0,if v≠1∧v≠2 then 10 else 11):=by
  unfold msgw
  by_cases h0:v≠1∧v≠2
  ·rw [if_pos h0,if_pos h0]
  ·rw [if_neg h0,if_pos h,if_neg h0]
 have hr0:(if v≠1∧v≠2 then (10:Int) else 11)≠0:=by split<;>decide
 rw [hr]
 generalize (if v≠1∧v≠2 then (10:Int) else 11)=r at *
 (have kk1:=uN [] hw;exact Wd0)
theorem decode_11(s:List UInt8)(hs:s.length≤140737488351232):AC Tryz.prog 9 [iv .u8 1,iv .u8 1,sv (bs s)] [] fun y σ=>y=.t [mgV (msgw 1 1 s).1,iv .i64 (msgw 1 1 s).2]∧σ=[]:=by
 refine AC.wk Tryz.func9 ?_
 have hok0:Cu.Ok ⟨s,0,0⟩:=⟨hs,Nat.zero_le _⟩
 have hw:=which_11
 have hnew:=@cursor_New s
 have hvt:=varint_Take s 0 0 hok0
 have ok0:(Cu.vtake ⟨s,0,0⟩).2.Ok:=Cu.vtake_ok hok0
 have hrw:msgw 1 1 s=(if (Cu.msg 1 1 ⟨s,0,0⟩).2.fin.e≠0 then mg0 else (Cu.msg 1 1 ⟨s,0,0⟩).1,(Cu.msg 1 1 ⟨s,0,0⟩).2.fin.e):=msgw_has rfl s
 rw [hrw]
 clear hrw
 generalize h0:Cu.vtake ⟨s,0,0⟩=z at *
 obtain ⟨id,c0⟩:=z
 simp only at hvt ok0
 have t0:=take_Key c0 ok0 (.s (.int .u8 1)) (.s (.int .u64 (id:Nat))) De Df De Dn De Dn Dn Dn Df De De De Df Dn Dn Dn D0 De
 have ok1:(Cu.okey c0).2.Ok:=gd_ok (Cu.blob_ok ok0)
 generalize hz0:Cu.okey c0=z at *
 obtain ⟨v0,c1⟩:=z
 simp only at t0 ok1
 have hm:Cu.msg 1 1 ⟨s,0,0⟩=(({ mg0 with kind:=1,id:=id,key:=v0 }:Mg),c1):=by simp only [Cu.msg,Cu.mbody,h0,hz0]
 rw [hm]
 simp only
 have hen:=cursor_End c1.s c1.a c1.e ok1
 rw [show Cu.fin ⟨c1.s,c1.a,c1.e⟩=Cu.fin c1 from rfl] at hen
 generalize Cu.fin c1=d at *
 clear h0 hz0
 focus (have kk1:=uN [] hw;have kk2:=uN [] hnew;have kk3:=uN [12] hvt;(repeat' (first|refine G ?_|refine AW.ret ?_|(refine GC ?_ ?_<;>intro h<;>(try simp only [hsB] at h)<;>try exact xf)|(refine GL ?_ ?_<;>intro h<;>(try simp only [hsN] at h)<;>(try simp only [h])<;>(try simp only [hsB] at h)<;>try exact xf)|fail));all_goals clear kk1 kk2 kk3)
 all_goals first|exact xg|skip
 refine AW.rounds [6,7,10,11,31,32,33] (fun i:Nat=>[(6,.p 0 0),(7,iv .i64 0),(10,.p 12 0),(11,.p 13 0),(31,.b 11 0 1),(32,iv .i64 1),(33,iv .i64 (i:Nat))]) (fun i=>[.box 38 [.d (.s (.int .u8 0)),.d (.s (.int .u64 0)),.d De,.d Df,.d De,.d Dn,.d De,.d Dn,.d Dn,.d Dn,.d Df,.d De,.d De,.d De,.d Df,.d Dn,.d Dn,.d Dn,.d D0,.d De],qo29,.box 4 [bv true],qo22,qo10,qo26,qo15,qo30,.box 4 [bv false],qo23,qo11,qo10,Cu.ob (match i with|0=>c0|_=>c1),.box 38 [.d (.s (.int .u8 1)),.d (.s (.int .u64 (id:Nat))),.d ((match i with|0=>De|_=>.s (.string ⟨(v0).toArray⟩))),.d Df,.d De,.d Dn,.d De,.d Dn,.d Dn,.d Dn,.d Df,.d De,.d De,.d De,.d Df,.d Dn,.d Dn,.d Dn,.d D0,.d De]])
  (fun i=>i≤1) (fun i=>1-i) 0 (Nat.zero_le _) rfl rfl (fun _ _=>Nat.zero_le _) (fun i _=>rfl) (fun _ _=>rfl) ?_
 rintro i hi J hJ
 have hc:i=0∨i=1:=by omega
 rcases hc with rfl|rfl
 ·clear hw hnew hvt
  (have kk1:=uN [12,13,1,3,2] t0;have go:=fun zT zs=>hJ 1 zT zs (by decide) (by decide);exact Wdg)
 ·clear hw hnew hvt
  by_cases hd:d.e=0
  ·rw [if_neg (by simpa using hd)]
   rw [hd] at hen ⊢
   focus (have kk1:=uN [12] hen;(repeat' (first|refine G ?_|refine AW.ret ?_|(refine GC ?_ ?_<;>intro h<;>(try simp only [hsB] at h)<;>try exact xf)|(refine GL ?_ ?_<;>intro h<;>(try simp only [hsN] at h)<;>(try simp only [h])<;>(try simp only [hsB] at h)<;>try exact xf)|fail));all_goals clear kk1)
   all_goals first|exact RetQ.r (xs:=[.a [.d (.s (.int .u8 1)),.d (.s (.int .u64 (id:Nat))),.d (.s (.string ⟨(v0).toArray⟩)),.d Df,.d De,.d Dn,.d De,.d Dn,.d Dn,.d Dn,.d Df,.d De,.d De,.d De,.d Df,.d Dn,.d Dn,.d Dn,.d D0,.d De],iv .i64 0]) 0 rfl (Nat.le_of_ble_eq_true rfl) rfl rfl ⟨rfl,rfl⟩|exact RetQ.fr 0|exact RetQ.fn 0|exact xg
  ·rw [if_pos hd]
   (have kk1:=uN [12] hen;exact Wd0)
theorem decode_12(s:List UInt8)(hs:s.length≤140737488351232):AC Tryz.prog 9 [iv .u8 1,iv .u8 2,sv (bs s)] [] fun y σ=>y=.t [mgV (msgw 1 2 s).1,iv .i64 (msgw 1 2 s).2]∧σ=[]:=by
 refine AC.wk Tryz.func9 ?_
 have hok0:Cu.Ok ⟨s,0,0⟩:=⟨hs,Nat.zero_le _⟩
 have hw:=which_12
 have hnew:=@cursor_New s
 have hvt:=varint_Take s 0 0 hok0
 have ok0:(Cu.vtake ⟨s,0,0⟩).2.Ok:=Cu.vtake_ok hok0
 have hrw:msgw 1 2 s=(if (Cu.msg 1 2 ⟨s,0,0⟩).2.fin.e≠0 then mg0 else (Cu.msg 1 2 ⟨s,0,0⟩).1,(Cu.msg 1 2 ⟨s,0,0⟩).2.fin.e):=msgw_has rfl s
 rw [hrw]
 clear hrw
 generalize h0:Cu.vtake ⟨s,0,0⟩=z at *
 obtain ⟨id,c0⟩:=z
 simp only at hvt ok0
 have t0:=take_Found c0 ok0 (.s (.int .u8 2)) (.s (.int .u64 (id:Nat))) De Df De Dn De Dn Dn Dn Df De De De Df Dn Dn Dn D0 De
 have ok1:(Cu.flag c0).2.Ok:=Cu.flag_ok ok0
 generalize hz0:Cu.flag c0=z at *
 obtain ⟨v0,c1⟩:=z
 simp only at t0 ok1
 cases v0 with
 | true=>
  have hbl:=blob_le64 c1
  have hn:Cu.nest Cu.old od0 c1=if (Cu.blob c1 65536).2.e=0 then ((oldw (Cu.blob c1 65536).1).1,(Cu.blob c1 65536).2.fail (oldw (Cu.blob c1 65536).1).2) else (od0,(Cu.blob c1 65536).2):=rfl
  have hbo:(Cu.blob c1 65536).2.Ok:=Cu.blob_ok ok1
  by_cases hb:(Cu.blob c1 65536).2.e=0
  ·rw [if_pos hb] at hn
   have t1:=take_found_old c1 ok1 (.s (.int .u8 2)) (.s (.int .u64 (id:Nat))) De De Dn De Dn Dn Dn Df De De De Df Dn Dn Dn D0 De hbl hb
   generalize oldw (Cu.blob c1 65536).1=w at *
   obtain ⟨w1,w2⟩:=w
   have okn:((Cu.blob c1 65536).2.fail w2).Ok:=hbo
   simp only at t1 hn
   generalize (Cu.blob c1 65536).2.fail w2=cn at *
   have hm:Cu.msg 1 2 ⟨s,0,0⟩=(({ mg0 with kind:=2,id:=id,found:=true,old:=w1 }:Mg),cn):=by simp only [Cu.msg,Cu.mbody,h0,hz0,↓reduceIte,n21,hn];try rfl
   rw [hm]
   simp only
   have hen:=cursor_End cn.s cn.a cn.e okn
   rw [show Cu.fin ⟨cn.s,cn.a,cn.e⟩=Cu.fin cn from rfl] at hen
   generalize Cu.fin cn=d at *
   clear h0 hn hz0
   focus (have kk1:=uN [] hw;have kk2:=uN [] hnew;have kk3:=uN [13] hvt;(repeat' (first|refine G ?_|refine AW.ret ?_|(refine GC ?_ ?_<;>intro h<;>(try simp only [hsB] at h)<;>try exact xf)|(refine GL ?_ ?_<;>intro h<;>(try simp only [hsN] at h)<;>(try simp only [h])<;>(try simp only [hsB] at h)<;>try exact xf)|fail));all_goals clear kk1 kk2 kk3)
   all_goals first|exact xg|skip
   refine AW.rounds [6,7,10,11,31,32,33] (fun i:Nat=>[(6,.p 0 0),(7,iv .i64 0),(10,.p 13 0),(11,.p 14 0),(31,.b 12 0 2),(32,iv .i64 2),(33,iv .i64 (i:Nat))]) (fun i=>[.box 38 [.d (.s (.int .u8 0)),.d (.s (.int .u64 0)),.d De,.d Df,.d De,.d Dn,.d De,.d Dn,.d Dn,.d Dn,.d Df,.d De,.d De,.d De,.d Df,.d Dn,.d Dn,.d Dn,.d D0,.d De],qo29,.box 4 [bv true],qo22,qo10,qo26,qo15,qo30,.box 4 [bv false],qo23,qo11,qo18,qo4,Cu.ob (match i with|0=>c0|1=>c1|_=>cn),.box 38 [.d (.s (.int .u8 2)),.d (.s (.int .u64 (id:Nat))),.d De,.d ((match i with|0=>Df|1=>.s (.bool true)|_=>.s (.bool true))),.d De,.d Dn,.d ((match i with|0=>De|1=>De|_=>.s (.string ⟨(w1.key).toArray⟩))),.d ((match i with|0=>Dn|1=>Dn|_=>.l w1.sibs.length (ossD w1.sibs))),.d Dn,.d Dn,.d Df,.d De,.d De,.d De,.d Df,.d Dn,.d Dn,.d Dn,.d D0,.d De]])
    (fun i=>i≤2) (fun i=>2-i) 0 (Nat.zero_le _) rfl rfl (fun _ _=>Nat.zero_le _) (fun i _=>rfl) (fun _ _=>rfl) ?_
   rintro i hi J hJ
   have hc:i=0∨i=1∨i=2:=by omega
   rcases hc with rfl|rfl|rfl
   ·clear hw hnew hvt
    (have kk1:=uN [13,14,5] t0;have go:=fun zT zs=>hJ 1 zT zs (by decide) (by decide);exact Wdg)
   ·clear hw hnew hvt
    (have kk1:=uN [13,14,11] t1;have go:=fun zT zs=>hJ 2 zT zs (by decide) (by decide);exact Wdg)
   ·clear hw hnew hvt
    by_cases hd:d.e=0
    ·rw [if_neg (by simpa using hd)]
     rw [hd] at hen ⊢
     focus (have kk1:=uN [13] hen;(repeat' (first|refine G ?_|refine AW.ret ?_|(refine GC ?_ ?_<;>intro h<;>(try simp only [hsB] at h)<;>try exact xf)|(refine GL ?_ ?_<;>intro h<;>(try simp only [hsN] at h)<;>(try simp only [h])<;>(try simp only [hsB] at h)<;>try exact xf)|fail));all_goals clear kk1)
     all_goals first|exact RetQ.r (xs:=[.a [.d (.s (.int .u8 2)),.d (.s (.int .u64 (id:Nat))),.d De,.d (.s (.bool true)),.d De,.d Dn,.d (.s (.string ⟨(w1.key).toArray⟩)),.d (.l w1.sibs.length (ossD w1.sibs)),.d Dn,.d Dn,.d Df,.d De,.d De,.d De,.d Df,.d Dn,.d Dn,.d Dn,.d D0,.d De],iv .i64 0]) 0 rfl (Nat.le_of_ble_eq_true rfl) rfl rfl ⟨rfl,rfl⟩|exact RetQ.fr 0|exact RetQ.fn 0|exact xg
    ·rw [if_pos hd]
     (have kk1:=uN [13] hen;exact Wd0)
  ·rw [if_neg hb] at hn
   have t1:=takf_found_old c1 ok1 (.s (.int .u8 2)) (.s (.int .u64 (id:Nat))) De De Dn De Dn Dn Dn Df De De De Df Dn Dn Dn D0 De hb
   have okn:=hbo
   generalize (Cu.blob c1 65536).2=cn at *
   have hm:Cu.msg 1 2 ⟨s,0,0⟩=(({ mg0 with kind:=2,id:=id,found:=true }:Mg),cn):=by simp only [Cu.msg,Cu.mbody,h0,hz0,↓reduceIte,n21,hn];try rfl
   rw [hm]
   simp only
   have hen:=cursor_End cn.s cn.a cn.e okn
   rw [show Cu.fin ⟨cn.s,cn.a,cn.e⟩=Cu.fin cn from rfl] at hen
   generalize Cu.fin cn=d at *
   clear h0 hn hz0
   focus (have kk1:=uN [] hw;have kk2:=uN [] hnew;have kk3:=uN [13] hvt;(repeat' (first|refine G ?_|refine AW.ret ?_|(refine GC ?_ ?_<;>intro h<;>(try simp only [hsB] at h)<;>try exact xf)|(refine GL ?_ ?_<;>intro h<;>(try simp only [hsN] at h)<;>(try simp only [h])<;>(try simp only [hsB] at h)<;>try exact xf)|fail));all_goals clear kk1 kk2 kk3)
   all_goals first|exact xg|skip
   refine AW.rounds [6,7,10,11,31,32,33] (fun i:Nat=>[(6,.p 0 0),(7,iv .i64 0),(10,.p 13 0),(11,.p 14 0),(31,.b 12 0 2),(32,iv .i64 2),(33,iv .i64 (i:Nat))]) (fun i=>[.box 38 [.d (.s (.int .u8 0)),.d (.s (.int .u64 0)),.d De,.d Df,.d De,.d Dn,.d De,.d Dn,.d Dn,.d Dn,.d Df,.d De,.d De,.d De,.d Df,.d Dn,.d Dn,.d Dn,.d D0,.d De],qo29,.box 4 [bv true],qo22,qo10,qo26,qo15,qo30,.box 4 [bv false],qo23,qo11,qo18,qo4,Cu.ob (match i with|0=>c0|1=>c1|_=>cn),.box 38 [.d (.s (.int .u8 2)),.d (.s (.int .u64 (id:Nat))),.d De,.d ((match i with|0=>Df|1=>.s (.bool true)|_=>.s (.bool true))),.d De,.d Dn,.d De,.d Dn,.d Dn,.d Dn,.d Df,.d De,.d De,.d De,.d Df,.d Dn,.d Dn,.d Dn,.d D0,.d De]])
    (fun i=>i≤2) (fun i=>2-i) 0 (Nat.zero_le _) rfl rfl (fun _ _=>Nat.zero_le _) (fun i _=>rfl) (fun _ _=>rfl) ?_
   rintro i hi J hJ
   have hc:i=0∨i=1∨i=2:=by omega
   rcases hc with rfl|rfl|rfl
   ·clear hw hnew hvt
    (have kk1:=uN [13,14,5] t0;have go:=fun zT zs=>hJ 1 zT zs (by decide) (by decide);exact Wdg)
   ·clear hw hnew hvt
    (have kk1:=uN [13,14,11] t1;have go:=fun zT zs=>hJ 2 zT zs (by decide) (by decide);exact Wdg)
   ·clear hw hnew hvt
    by_cases hd:d.e=0
    ·rw [if_neg (by simpa using hd)]
     rw [hd] at hen ⊢
     focus (have kk1:=uN [13] hen;(repeat' (first|refine G ?_|refine AW.ret ?_|(refine GC ?_ ?_<;>intro h<;>(try simp only [hsB] at h)<;>try exact xf)|(refine GL ?_ ?_<;>intro h<;>(try simp only [hsN] at h)<;>(try simp only [h])<;>(try simp only [hsB] at h)<;>try exact xf)|fail));all_goals clear kk1)
     all_goals first|exact RetQ.r (xs:=[.a [.d (.s (.int .u8 2)),.d (.s (.int .u64 (id:Nat))),.d De,.d (.s (.bool true)),.d De,.d Dn,.d De,.d Dn,.d Dn,.d Dn,.d Df,.d De,.d De,.d De,.d Df,.d Dn,.d Dn,.d Dn,.d D0,.d De],iv .i64 0]) 0 rfl (Nat.le_of_ble_eq_true rfl) rfl rfl ⟨rfl,rfl⟩|exact RetQ.fr 0|exact RetQ.fn 0|exact xg
    ·rw [if_pos hd]
     (have kk1:=uN [13] hen;exact Wd0)
 | false=>
  have t1:=takn_found_old c1 (.s (.int .u8 2)) (.s (.int .u64 (id:Nat))) De De Dn De Dn Dn Dn Df De De De Df Dn Dn Dn D0 De
  have hm:Cu.msg 1 2 ⟨s,0,0⟩=(({ mg0 with kind:=2,id:=id }:Mg),c1):=by simp only [Cu.msg,Cu.mbody,h0,hz0,↓reduceIte,n21,Bool.false_eq_true];try rfl
  rw [hm]
  simp only
  have hen:=cursor_End c1.s c1.a c1.e ok1
  rw [show Cu.fin ⟨c1.s,c1.a,c1.e⟩=Cu.fin c1 from rfl] at hen
  generalize Cu.fin c1=d at *
  clear h0 hz0
  focus (have kk1:=uN [] hw;have kk2:=uN [] hnew;have kk3:=uN [13] hvt;(repeat' (first|refine G ?_|refine AW.ret ?_|(refine GC ?_ ?_<;>intro h<;>(try simp only [hsB] at h)<;>try exact xf)|(refine GL ?_ ?_<;>intro h<;>(try simp only [hsN] at h)<;>(try simp only [h])<;>(try simp only [hsB] at h)<;>try exact xf)|fail));all_goals clear kk1 kk2 kk3)
  all_goals first|exact xg|skip
  refine AW.rounds [6,7,10,11,31,32,33] (fun i:Nat=>[(6,.p 0 0),(7,iv .i64 0),(10,.p 13 0),(11,.p 14 0),(31,.b 12 0 2),(32,iv .i64 2),(33,iv .i64 (i:Nat))]) (fun i=>[.box 38 [.d (.s (.int .u8 0)),.d (.s (.int .u64 0)),.d De,.d Df,.d De,.d Dn,.d De,.d Dn,.d Dn,.d Dn,.d Df,.d De,.d De,.d De,.d Df,.d Dn,.d Dn,.d Dn,.d D0,.d De],qo29,.box 4 [bv true],qo22,qo10,qo26,qo15,qo30,.box 4 [bv false],qo23,qo11,qo18,qo4,Cu.ob (match i with|0=>c0|1=>c1|_=>c1),.box 38 [.d (.s (.int .u8 2)),.d (.s (.int .u64 (id:Nat))),.d De,.d Df,.d De,.d Dn,.d De,.d Dn,.d Dn,.d Dn,.d Df,.d De,.d De,.d De,.d Df,.d Dn,.d Dn,.d Dn,.d D0,.d De]])
   (fun i=>i≤2) (fun i=>2-i) 0 (Nat.zero_le _) rfl rfl (fun _ _=>Nat.zero_le _) (fun i _=>rfl) (fun _ _=>rfl) ?_
  rintro i hi J hJ
  have hc:i=0∨i=1∨i=2:=by omega
  rcases hc with rfl|rfl|rfl
  ·clear hw hnew hvt
   (have kk1:=uN [13,14,5] t0;have go:=fun zT zs=>hJ 1 zT zs (by decide) (by decide);exact Wdg)
  ·clear hw hnew hvt
   (have kk1:=uN [13,14,11] t1;have go:=fun zT zs=>hJ 2 zT zs (by decide) (by decide);exact Wdg)
  ·clear hw hnew hvt
   by_cases hd:d.e=0
   ·rw [if_neg (by simpa using hd)]
    rw [hd] at hen ⊢
    focus (have kk1:=uN [13] hen;(repeat' (first|refine G ?_|refine AW.ret ?_|(refine GC ?_ ?_<;>intro h<;>(try simp only [hsB] at h)<;>try exact xf)|(refine GL ?_ ?_<;>intro h<;>(try simp only [hsN] at h)<;>(try simp only [h])<;>(try simp only [hsB] at h)<;>try exact xf)|fail));all_goals clear kk1)
    all_goals first|exact RetQ.r (xs:=[.a [.d (.s (.int .u8 2)),.d (.s (.int .u64 (id:Nat))),.d De,.d Df,.d De,.d Dn,.d De,.d Dn,.d Dn,.d Dn,.d Df,.d De,.d De,.d De,.d Df,.d Dn,.d Dn,.d Dn,.d D0,.d De],iv .i64 0]) 0 rfl (Nat.le_of_ble_eq_true rfl) rfl rfl ⟨rfl,rfl⟩|exact RetQ.fr 0|exact RetQ.fn 0|exact xg
   ·rw [if_pos hd]
    (have kk1:=uN [13] hen;exact Wd0)
theorem decode_18(s:List UInt8)(hs:s.length≤140737488351232):AC Tryz.prog 9 [iv .u8 1,iv .u8 8,sv (bs s)] [] fun y σ=>y=.t [mgV (msgw 1 8 s).1,iv .i64 (msgw 1 8 s).2]∧σ=[]:=by
 refine AC.wk Tryz.func9 ?_
 have hok0:Cu.Ok ⟨s,0,0⟩:=⟨hs,Nat.zero_le _⟩
 have hw:=which_18
 have hnew:=@cursor_New s
 have hvt:=varint_Take s 0 0 hok0
 have ok0:(Cu.vtake ⟨s,0,0⟩).2.Ok:=Cu.vtake_ok hok0
 have hrw:msgw 1 8 s=(if (Cu.msg 1 8 ⟨s,0,0⟩).2.fin.e≠0 then mg0 else (Cu.msg 1 8 ⟨s,0,0⟩).1,(Cu.msg 1 8 ⟨s,0,0⟩).2.fin.e):=msgw_has rfl s
 rw [hrw]
 clear hrw
 generalize h0:Cu.vtake ⟨s,0,0⟩=z at *
 obtain ⟨id,c0⟩:=z
 simp only at hvt ok0
 have t0:=take_code c0 ok0 (.s (.int .u8 8)) (.s (.int .u64 (id:Nat))) De Df De Dn De Dn Dn Dn Df De De De Df Dn Dn Dn D0 De
 have ok1:(Cu.count c0 255).2.Ok:=Cu.count_ok ok0
 generalize hz0:Cu.count c0 255=z at *
 obtain ⟨v0,c1⟩:=z
 simp only at t0 ok1
 have t1:=take_Text c1 ok1 (.s (.int .u8 8)) (.s (.int .u64 (id:Nat))) De Df De Dn De Dn Dn Dn Df De De De Df Dn Dn Dn (.s (.int .i64 (v0:Nat))) De
 have ok2:(Cu.blob c1 64).2.Ok:=Cu.blob_ok ok1
 generalize hz1:Cu.blob c1 64=z at *
 obtain ⟨v1,c2⟩:=z
 simp only at t1 ok2
 have hm:Cu.msg 1 8 ⟨s,0,0⟩=(({ mg0 with kind:=8,id:=id,code:=(v0:Nat),txt:=v1 }:Mg),c2):=by simp only [Cu.msg,Cu.mbody,h0,hz0,hz1]
 rw [hm]
 simp only
 have hen:=cursor_End c2.s c2.a c2.e ok2
 rw [show Cu.fin ⟨c2.s,c2.a,c2.e⟩=Cu.fin c2 from rfl] at hen
 generalize Cu.fin c2=d at *
 clear h0 hz0 hz1
 focus (have kk1:=uN [] hw;have kk2:=uN [] hnew;have kk3:=uN [12] hvt;(repeat' (first|refine G ?_|refine AW.ret ?_|(refine GC ?_ ?_<;>intro h<;>(try simp only [hsB] at h)<;>try exact xf)|(refine GL ?_ ?_<;>intro h<;>(try simp only [hsN] at h)<;>(try simp only [h])<;>(try simp only [hsB] at h)<;>try exact xf)|fail));all_goals clear kk1 kk2 kk3)
 all_goals first|exact xg|skip
 refine AW.rounds [6,7,10,11,31,32,33] (fun i:Nat=>[(6,.p 0 0),(7,iv .i64 0),(10,.p 12 0),(11,.p 13 0),(31,.b 11 0 2),(32,iv .i64 2),(33,iv .i64 (i:Nat))]) (fun i=>[.box 38 [.d (.s (.int .u8 0)),.d (.s (.int .u64 0)),.d De,.d Df,.d De,.d Dn,.d De,.d Dn,.d Dn,.d Dn,.d Df,.d De,.d De,.d De,.d Df,.d Dn,.d Dn,.d Dn,.d D0,.d De],qo29,.box 4 [bv true],qo22,qo10,qo26,qo15,qo30,.box 4 [bv false],qo23,qo11,qo2,Cu.ob (match i with|0=>c0|1=>c1|_=>c2),.box 38 [.d (.s (.int .u8 8)),.d (.s (.int .u64 (id:Nat))),.d De,.d Df,.d De,.d Dn,.d De,.d Dn,.d Dn,.d Dn,.d Df,.d De,.d De,.d De,.d Df,.d Dn,.d Dn,.d Dn,.d ((match i with|0=>D0|1=>.s (.int .i64 (v0:Nat))|_=>.s (.int .i64 (v0:Nat)))),.d ((match i with|0=>De|1=>De|_=>.s (.string ⟨(v1).toArray⟩)))]])
  (fun i=>i≤2) (fun i=>2-i) 0 (Nat.zero_le _) rfl rfl (fun _ _=>Nat.zero_le _) (fun i _=>rfl) (fun _ _=>rfl) ?_
 rintro i hi J hJ
 have hc:i=0∨i=1∨i=2:=by omega
 rcases hc with rfl|rfl|rfl
 ·clear hw hnew hvt
  (have kk1:=uN [12,13] t0;have go:=fun zT zs=>hJ 1 zT zs (by decide) (by decide);exact Wdg)
 ·clear hw hnew hvt
  (have kk1:=uN [12,13,7,9,8] t1;have go:=fun zT zs=>hJ 2 zT zs (by decide) (by decide);exact Wdg)
 ·clear hw hnew hvt
  by_cases hd:d.e=0
  ·rw [if_neg (by simpa using hd)]
   rw [hd] at hen ⊢
   focus (have kk1:=uN [12] hen;(repeat' (first|refine G ?_|refine AW.ret ?_|(refine GC ?_ ?_<;>intro h<;>(try simp only [hsB] at h)<;>try exact xf)|(refine GL ?_ ?_<;>intro h<;>(try simp only [hsN] at h)<;>(try simp only [h])<;>(try simp only [hsB] at h)<;>try exact xf)|fail));all_goals clear kk1)
   all_goals first|exact RetQ.r (xs:=[.a [.d (.s (.int .u8 8)),.d (.s (.int .u64 (id:Nat))),.d De,.d Df,.d De,.d Dn,.d De,.d Dn,.d Dn,.d Dn,.d Df,.d De,.d De,.d De,.d Df,.d Dn,.d Dn,.d Dn,.d (.s (.int .i64 (v0:Nat))),.d (.s (.string ⟨(v1).toArray⟩))],iv .i64 0]) 0 rfl (Nat.le_of_ble_eq_true rfl) rfl rfl ⟨rfl,rfl⟩|exact RetQ.fr 0|exact RetQ.fn 0|exact xg
  ·rw [if_pos hd]
   (have kk1:=uN [12] hen;exact Wd0)
theorem decode_21(s:List UInt8)(hs:s.length≤140737488351232):AC Tryz.prog 9 [iv .u8 2,iv .u8 1,sv (bs s)] [] fun y σ=>y=.t [mgV (msgw 2 1 s).1,iv .i64 (msgw 2 1 s).2]∧σ=[]:=by
 refine AC.wk Tryz.func9 ?_
 have hok0:Cu.Ok ⟨s,0,0⟩:=⟨hs,Nat.zero_le _⟩
 have hw:=which_21
 have hnew:=@cursor_New s
 have hvt:=varint_Take s 0 0 hok0
 have ok0:(Cu.vtake ⟨s,0,0⟩).2.Ok:=Cu.vtake_ok hok0
 have hrw:msgw 2 1 s=(if (Cu.msg 2 1 ⟨s,0,0⟩).2.fin.e≠0 then mg0 else (Cu.msg 2 1 ⟨s,0,0⟩).1,(Cu.msg 2 1 ⟨s,0,0⟩).2.fin.e):=msgw_has rfl s
 rw [hrw]
 clear hrw
 generalize h0:Cu.vtake ⟨s,0,0⟩=z at *
 obtain ⟨id,c0⟩:=z
 simp only at hvt ok0
 have t0:=take_Key c0 ok0 (.s (.int .u8 1)) (.s (.int .u64 (id:Nat))) De Df De Dn De Dn Dn Dn Df De De De Df Dn Dn Dn D0 De
 have ok1:(Cu.okey c0).2.Ok:=gd_ok (Cu.blob_ok ok0)
 generalize hz0:Cu.okey c0=z at *
 obtain ⟨v0,c1⟩:=z
 simp only at t0 ok1
 have hm:Cu.msg 2 1 ⟨s,0,0⟩=(({ mg0 with kind:=1,id:=id,key:=v0 }:Mg),c1):=by simp only [Cu.msg,Cu.mbody,h0,hz0]
 rw [hm]
 simp only
 have hen:=cursor_End c1.s c1.a c1.e ok1
 rw [show Cu.fin ⟨c1.s,c1.a,c1.e⟩=Cu.fin c1 from rfl] at hen
 generalize Cu.fin c1=d at *
 clear h0 hz0
 focus (have kk1:=uN [] hw;have kk2:=uN [] hnew;have kk3:=uN [12] hvt;(repeat' (first|refine G ?_|refine AW.ret ?_|(refine GC ?_ ?_<;>intro h<;>(try simp only [hsB] at h)<;>try exact xf)|(refine GL ?_ ?_<;>intro h<;>(try simp only [hsN] at h)<;>(try simp only [h])<;>(try simp only [hsB] at h)<;>try exact xf)|fail));all_goals clear kk1 kk2 kk3)
 all_goals first|exact xg|skip
 refine AW.rounds [6,7,10,11,31,32,33] (fun i:Nat=>[(6,.p 0 0),(7,iv .i64 0),(10,.p 12 0),(11,.p 13 0),(31,.b 11 0 1),(32,iv .i64 1),(33,iv .i64 (i:Nat))]) (fun i=>[.box 38 [.d (.s (.int .u8 0)),.d (.s (.int .u64 0)),.d De,.d Df,.d De,.d Dn,.d De,.d Dn,.d Dn,.d Dn,.d Df,.d De,.d De,.d De,.d Df,.d Dn,.d Dn,.d Dn,.d D0,.d De],qo29,.box 4 [bv true],qo22,qo10,qo26,qo15,qo30,.box 4 [bv false],qo23,qo11,qo10,Cu.ob (match i with|0=>c0|_=>c1),.box 38 [.d (.s (.int .u8 1)),.d (.s (.int .u64 (id:Nat))),.d ((match i with|0=>De|_=>.s (.string ⟨(v0).toArray⟩))),.d Df,.d De,.d Dn,.d De,.d Dn,.d Dn,.d Dn,.d Df,.d De,.d De,.d De,.d Df,.d Dn,.d Dn,.d Dn,.d D0,.d De]])
  (fun i=>i≤1) (fun i=>1-i) 0 (Nat.zero_le _) rfl rfl (fun _ _=>Nat.zero_le _) (fun i _=>rfl) (fun _ _=>rfl) ?_
 rintro i hi J hJ
 have hc:i=0∨i=1:=by omega
 rcases hc with rfl|rfl
 ·clear hw hnew hvt
  (have kk1:=uN [12,13,1,3,2] t0;have go:=fun zT zs=>hJ 1 zT zs (by decide) (by decide);exact Wdg)
 ·clear hw hnew hvt
  by_cases hd:d.e=0
  ·rw [if_neg (by simpa using hd)]
   rw [hd] at hen ⊢
   focus (have kk1:=uN [12] hen;(repeat' (first|refine G ?_|refine AW.ret ?_|(refine GC ?_ ?_<;>intro h<;>(try simp only [hsB] at h)<;>try exact xf)|(refine GL ?_ ?_<;>intro h<;>(try simp only [hsN] at h)<;>(try simp only [h])<;>(try simp only [hsB] at h)<;>try exact xf)|fail));all_goals clear kk1)
   all_goals first|exact RetQ.r (xs:=[.a [.d (.s (.int .u8 1)),.d (.s (.int .u64 (id:Nat))),.d (.s (.string ⟨(v0).toArray⟩)),.d Df,.d De,.d Dn,.d De,.d Dn,.d Dn,.d Dn,.d Df,.d De,.d De,.d De,.d Df,.d Dn,.d Dn,.d Dn,.d D0,.d De],iv .i64 0]) 0 rfl (Nat.le_of_ble_eq_true rfl) rfl rfl ⟨rfl,rfl⟩|exact RetQ.fr 0|exact RetQ.fn 0|exact xg
  ·rw [if_pos hd]
   (have kk1:=uN [12] hen;exact Wd0)
theorem decode_22(s:List UInt8)(hs:s.length≤140737488351232):AC Tryz.prog 9 [iv .u8 2,iv .u8 2,sv (bs s)] [] fun y σ=>y=.t [mgV (msgw 2 2 s).1,iv .i64 (msgw 2 2 s).2]∧σ=[]:=by
 refine AC.wk Tryz.func9 ?_
 have hok0:Cu.Ok ⟨s,0,0⟩:=⟨hs,Nat.zero_le _⟩
 have hw:=which_22
 have hnew:=@cursor_New s
 have hvt:=varint_Take s 0 0 hok0
 have ok0:(Cu.vtake ⟨s,0,0⟩).2.Ok:=Cu.vtake_ok hok0
 have hrw:msgw 2 2 s=(if (Cu.msg 2 2 ⟨s,0,0⟩).2.fin.e≠0 then mg0 else (Cu.msg 2 2 ⟨s,0,0⟩).1,(Cu.msg 2 2 ⟨s,0,0⟩).2.fin.e):=msgw_has rfl s
 rw [hrw]
 clear hrw
 generalize h0:Cu.vtake ⟨s,0,0⟩=z at *
 obtain ⟨id,c0⟩:=z
 simp only at hvt ok0
 have t0:=take_Found c0 ok0 (.s (.int .u8 2)) (.s (.int .u64 (id:Nat))) De Df De Dn De Dn Dn Dn Df De De De Df Dn Dn Dn D0 De
 have ok1:(Cu.flag c0).2.Ok:=Cu.flag_ok ok0
 generalize hz0:Cu.flag c0=z at *
 obtain ⟨v0,c1⟩:=z
 simp only at t0 ok1
 cases v0 with
 | true=>
  have hbl:=blob_le64 c1
  have hn:Cu.nest Cu.obj oj0 c1=if (Cu.blob c1 65536).2.e=0 then ((objw (Cu.blob c1 65536).1).1,(Cu.blob c1 65536).2.fail (objw (Cu.blob c1 65536).1).2) else (oj0,(Cu.blob c1 65536).2):=rfl
  have hbo:(Cu.blob c1 65536).2.Ok:=Cu.blob_ok ok1
  by_cases hb:(Cu.blob c1 65536).2.e=0
  ·rw [if_pos hb] at hn
   have t1:=take_found_object c1 ok1 (.s (.int .u8 2)) (.s (.int .u64 (id:Nat))) De De Dn De Dn Dn Dn Df De De De Df Dn Dn Dn D0 De hbl hb
   generalize objw (Cu.blob c1 65536).1=w at *
   obtain ⟨w1,w2⟩:=w
   have okn:((Cu.blob c1 65536).2.fail w2).Ok:=hbo
   simp only at t1 hn
   generalize (Cu.blob c1 65536).2.fail w2=cn at *
   have hm:Cu.msg 2 2 ⟨s,0,0⟩=(({ mg0 with kind:=2,id:=id,found:=true,obj:=w1 }:Mg),cn):=by simp only [Cu.msg,Cu.mbody,h0,hz0,↓reduceIte,n21,hn];try rfl
   rw [hm]
   simp only
   have hen:=cursor_End cn.s cn.a cn.e okn
   rw [show Cu.fin ⟨cn.s,cn.a,cn.e⟩=Cu.fin cn from rfl] at hen
   generalize Cu.fin cn=d at *
   clear h0 hn hz0
   focus (have kk1:=uN [] hw;have kk2:=uN [] hnew;have kk3:=uN [13] hvt;(repeat' (first|refine G ?_|refine AW.ret ?_|(refine GC ?_ ?_<;>intro h<;>(try simp only [hsB] at h)<;>try exact xf)|(refine GL ?_ ?_<;>intro h<;>(try simp only [hsN] at h)<;>(try simp only [h])<;>(try simp only [hsB] at h)<;>try exact xf)|fail));all_goals clear kk1 kk2 kk3)
   all_goals first|exact xg|skip
   refine AW.rounds [6,7,10,11,31,32,33] (fun i:Nat=>[(6,.p 0 0),(7,iv .i64 0),(10,.p 13 0),(11,.p 14 0),(31,.b 12 0 2),(32,iv .i64 2),(33,iv .i64 (i:Nat))]) (fun i=>[.box 38 [.d (.s (.int .u8 0)),.d (.s (.int .u64 0)),.d De,.d Df,.d De,.d Dn,.d De,.d Dn,.d Dn,.d Dn,.d Df,.d De,.d De,.d De,.d Df,.d Dn,.d Dn,.d Dn,.d D0,.d De],qo29,.box 4 [bv true],qo22,qo10,qo26,qo15,qo30,.box 4 [bv false],qo23,qo11,qo17,qo4,Cu.ob (match i with|0=>c0|1=>c1|_=>cn),.box 38 [.d (.s (.int .u8 2)),.d (.s (.int .u64 (id:Nat))),.d De,.d ((match i with|0=>Df|1=>.s (.bool true)|_=>.s (.bool true))),.d ((match i with|0=>De|1=>De|_=>.s (.string ⟨(w1.key).toArray⟩))),.d ((match i with|0=>Dn|1=>Dn|_=>.l w1.sibs.length (sbsD w1.sibs))),.d De,.d Dn,.d Dn,.d Dn,.d Df,.d De,.d De,.d De,.d Df,.d Dn,.d Dn,.d Dn,.d D0,.d De]])
    (fun i=>i≤2) (fun i=>2-i) 0 (Nat.zero_le _) rfl rfl (fun _ _=>Nat.zero_le _) (fun i _=>rfl) (fun _ _=>rfl) ?_
   rintro i hi J hJ
   have hc:i=0∨i=1∨i=2:=by omega
   rcases hc with rfl|rfl|rfl
   ·clear hw hnew hvt
    (have kk1:=uN [13,14,5] t0;have go:=fun zT zs=>hJ 1 zT zs (by decide) (by decide);exact Wdg)
   ·clear hw hnew hvt
    (have kk1:=uN [13,14,11] t1;have go:=fun zT zs=>hJ 2 zT zs (by decide) (by decide);exact Wdg)
   ·clear hw hnew hvt
    by_cases hd:d.e=0
    ·rw [if_neg (by simpa using hd)]
     rw [hd] at hen ⊢
     focus (have kk1:=uN [13] hen;(repeat' (first|refine G ?_|refine AW.ret ?_|(refine GC ?_ ?_<;>intro h<;>(try simp only [hsB] at h)<;>try exact xf)|(refine GL ?_ ?_<;>intro h<;>(try simp only [hsN] at h)<;>(try simp only [h])<;>(try simp only [hsB] at h)<;>try exact xf)|fail));all_goals clear kk1)
     all_goals first|exact RetQ.r (xs:=[.a [.d (.s (.int .u8 2)),.d (.s (.int .u64 (id:Nat))),.d De,.d (.s (.bool true)),.d (.s (.string ⟨(w1.key).toArray⟩)),.d (.l w1.sibs.length (sbsD w1.sibs)),.d De,.d Dn,.d Dn,.d Dn,.d Df,.d De,.d De,.d De,.d Df,.d Dn,.d Dn,.d Dn,.d D0,.d De],iv .i64 0]) 0 rfl (Nat.le_of_ble_eq_true rfl) rfl rfl ⟨rfl,rfl⟩|exact RetQ.fr 0|exact RetQ.fn 0|exact xg
    ·rw [if_pos hd]
     (have kk1:=uN [13] hen;exact Wd0)
  ·rw [if_neg hb] at hn
   have t1:=takf_found_object c1 ok1 (.s (.int .u8 2)) (.s (.int .u64 (id:Nat))) De De Dn De Dn Dn Dn Df De De De Df Dn Dn Dn D0 De hb
   have okn:=hbo
   generalize (Cu.blob c1 65536).2=cn at *
   have hm:Cu.msg 2 2 ⟨s,0,0⟩=(({ mg0 with kind:=2,id:=id,found:=true }:Mg),cn):=by simp only [Cu.msg,Cu.mbody,h0,hz0,↓reduceIte,n21,hn];try rfl
   rw [hm]
   simp only
   have hen:=cursor_End cn.s cn.a cn.e okn
   rw [show Cu.fin ⟨cn.s,cn.a,cn.e⟩=Cu.fin cn from rfl] at hen
   generalize Cu.fin cn=d at *
   clear h0 hn hz0
   focus (have kk1:=uN [] hw;have kk2:=uN [] hnew;have kk3:=uN [13] hvt;(repeat' (first|refine G ?_|refine AW.ret ?_|(refine GC ?_ ?_<;>intro h<;>(try simp only [hsB] at h)<;>try exact xf)|(refine GL ?_ ?_<;>intro h<;>(try simp only [hsN] at h)<;>(try simp only [h])<;>(try simp only [hsB] at h)<;>try exact xf)|fail));all_goals clear kk1 kk2 kk3)
   all_goals first|exact xg|skip
   refine AW.rounds [6,7,10,11,31,32,33] (fun i:Nat=>[(6,.p 0 0),(7,iv .i64 0),(10,.p 13 0),(11,.p 14 0),(31,.b 12 0 2),(32,iv .i64 2),(33,iv .i64 (i:Nat))]) (fun i=>[.box 38 [.d (.s (.int .u8 0)),.d (.s (.int .u64 0)),.d De,.d Df,.d De,.d Dn,.d De,.d Dn,.d Dn,.d Dn,.d Df,.d De,.d De,.d De,.d Df,.d Dn,.d Dn,.d Dn,.d D0,.d De],qo29,.box 4 [bv true],qo22,qo10,qo26,qo15,qo30,.box 4 [bv false],qo23,qo11,qo17,qo4,Cu.ob (match i with|0=>c0|1=>c1|_=>cn),.box 38 [.d (.s (.int .u8 2)),.d (.s (.int .u64 (id:Nat))),.d De,.d ((match i with|0=>Df|1=>.s (.bool true)|_=>.s (.bool true))),.d De,.d Dn,.d De,.d Dn,.d Dn,.d Dn,.d Df,.d De,.d De,.d De,.d Df,.d Dn,.d Dn,.d Dn,.d D0,.d De]])
    (fun i=>i≤2) (fun i=>2-i) 0 (Nat.zero_le _) rfl rfl (fun _ _=>Nat.zero_le _) (fun i _=>rfl) (fun _ _=>rfl) ?_
   rintro i hi J hJ
   have hc:i=0∨i=1∨i=2:=by omega
   rcases hc with rfl|rfl|rfl
   ·clear hw hnew hvt
    (have kk1:=uN [13,14,5] t0;have go:=fun zT zs=>hJ 1 zT zs (by decide) (by decide);exact Wdg)
   ·clear hw hnew hvt
    (have kk1:=uN [13,14,11] t1;have go:=fun zT zs=>hJ 2 zT zs (by decide) (by decide);exact Wdg)
   ·clear hw hnew hvt
    by_cases hd:d.e=0
    ·rw [if_neg (by simpa using hd)]
     rw [hd] at hen ⊢
     focus (have kk1:=uN [13] hen;(repeat' (first|refine G ?_|refine AW.ret ?_|(refine GC ?_ ?_<;>intro h<;>(try simp only [hsB] at h)<;>try exact xf)|(refine GL ?_ ?_<;>intro h<;>(try simp only [hsN] at h)<;>(try simp only [h])<;>(try simp only [hsB] at h)<;>try exact xf)|fail));all_goals clear kk1)
     all_goals first|exact RetQ.r (xs:=[.a [.d (.s (.int .u8 2)),.d (.s (.int .u64 (id:Nat))),.d De,.d (.s (.bool true)),.d De,.d Dn,.d De,.d Dn,.d Dn,.d Dn,.d Df,.d De,.d De,.d De,.d Df,.d Dn,.d Dn,.d Dn,.d D0,.d De],iv .i64 0]) 0 rfl (Nat.le_of_ble_eq_true rfl) rfl rfl ⟨rfl,rfl⟩|exact RetQ.fr 0|exact RetQ.fn 0|exact xg
    ·rw [if_pos hd]
     (have kk1:=uN [13] hen;exact Wd0)
 | false=>
  have t1:=takn_found_object c1 (.s (.int .u8 2)) (.s (.int .u64 (id:Nat))) De De Dn De Dn Dn Dn Df De De De Df Dn Dn Dn D0 De
  have hm:Cu.msg 2 2 ⟨s,0,0⟩=(({ mg0 with kind:=2,id:=id }:Mg),c1):=by simp only [Cu.msg,Cu.mbody,h0,hz0,↓reduceIte,n21,Bool.false_eq_true];try rfl
  rw [hm]
  simp only
  have hen:=cursor_End c1.s c1.a c1.e ok1
  rw [show Cu.fin ⟨c1.s,c1.a,c1.e⟩=Cu.fin c1 from rfl] at hen
  generalize Cu.fin c1=d at *
  clear h0 hz0
  focus (have kk1:=uN [] hw;have kk2:=uN [] hnew;have kk3:=uN [13] hvt;(repeat' (first|refine G ?_|refine AW.ret ?_|(refine GC ?_ ?_<;>intro h<;>(try simp only [hsB] at h)<;>try exact xf)|(refine GL ?_ ?_<;>intro h<;>(try simp only [hsN] at h)<;>(try simp only [h])<;>(try simp only [hsB] at h)<;>try exact xf)|fail));all_goals clear kk1 kk2 kk3)
  all_goals first|exact xg|skip
  refine AW.rounds [6,7,10,11,31,32,33] (fun i:Nat=>[(6,.p 0 0),(7,iv .i64 0),(10,.p 13 0),(11,.p 14 0),(31,.b 12 0 2),(32,iv .i64 2),(33,iv .i64 (i:Nat))]) (fun i=>[.box 38 [.d (.s (.int .u8 0)),.d (.s (.int .u64 0)),.d De,.d Df,.d De,.d Dn,.d De,.d Dn,.d Dn,.d Dn,.d Df,.d De,.d De,.d De,.d Df,.d Dn,.d Dn,.d Dn,.d D0,.d De],qo29,.box 4 [bv true],qo22,qo10,qo26,qo15,qo30,.box 4 [bv false],qo23,qo11,qo17,qo4,Cu.ob (match i with|0=>c0|1=>c1|_=>c1),.box 38 [.d (.s (.int .u8 2)),.d (.s (.int .u64 (id:Nat))),.d De,.d Df,.d De,.d Dn,.d De,.d Dn,.d Dn,.d Dn,.d Df,.d De,.d De,.d De,.d Df,.d Dn,.d Dn,.d Dn,.d D0,.d De]])
   (fun i=>i≤2) (fun i=>2-i) 0 (Nat.zero_le _) rfl rfl (fun _ _=>Nat.zero_le _) (fun i _=>rfl) (fun _ _=>rfl) ?_
  rintro i hi J hJ
  have hc:i=0∨i=1∨i=2:=by omega
  rcases hc with rfl|rfl|rfl
  ·clear hw hnew hvt
   (have kk1:=uN [13,14,5] t0;have go:=fun zT zs=>hJ 1 zT zs (by decide) (by decide);exact Wdg)
  ·clear hw hnew hvt
   (have kk1:=uN [13,14,11] t1;have go:=fun zT zs=>hJ 2 zT zs (by decide) (by decide);exact Wdg)
  ·clear hw hnew hvt
   by_cases hd:d.e=0
   ·rw [if_neg (by simpa using hd)]
    rw [hd] at hen ⊢
    focus (have kk1:=uN [13] hen;(repeat' (first|refine G ?_|refine AW.ret ?_|(refine GC ?_ ?_<;>intro h<;>(try simp only [hsB] at h)<;>try exact xf)|(refine GL ?_ ?_<;>intro h<;>(try simp only [hsN] at h)<;>(try simp only [h])<;>(try simp only [hsB] at h)<;>try exact xf)|fail));all_goals clear kk1)
    all_goals first|exact RetQ.r (xs:=[.a [.d (.s (.int .u8 2)),.d (.s (.int .u64 (id:Nat))),.d De,.d Df,.d De,.d Dn,.d De,.d Dn,.d Dn,.d Dn,.d Df,.d De,.d De,.d De,.d Df,.d Dn,.d Dn,.d Dn,.d D0,.d De],iv .i64 0]) 0 rfl (Nat.le_of_ble_eq_true rfl) rfl rfl ⟨rfl,rfl⟩|exact RetQ.fr 0|exact RetQ.fn 0|exact xg
   ·rw [if_pos hd]
    (have kk1:=uN [13] hen;exact Wd0)
theorem decode_23(s:List UInt8)(hs:s.length≤140737488351232):AC Tryz.prog 9 [iv .u8 2,iv .u8 3,sv (bs s)] [] fun y σ=>y=.t [mgV (msgw 2 3 s).1,iv .i64 (msgw 2 3 s).2]∧σ=[]:=by
 refine AC.wk Tryz.func9 ?_
 have hok0:Cu.Ok ⟨s,0,0⟩:=⟨hs,Nat.zero_le _⟩
 have hw:=which_23
 have hnew:=@cursor_New s
 have hvt:=varint_Take s 0 0 hok0
 have ok0:(Cu.vtake ⟨s,0,0⟩).2.Ok:=Cu.vtake_ok hok0
 have hrw:msgw 2 3 s=(if (Cu.msg 2 3 ⟨s,0,0⟩).2.fin.e≠0 then mg0 else (Cu.msg 2 3 ⟨s,0,0⟩).1,(Cu.msg 2 3 ⟨s,0,0⟩).2.fin.e):=msgw_has rfl s
 rw [hrw]
 clear hrw
 generalize h0:Cu.vtake ⟨s,0,0⟩=z at *
 obtain ⟨id,c0⟩:=z
 simp only at hvt ok0
 have t0:=take_Key c0 ok0 (.s (.int .u8 3)) (.s (.int .u64 (id:Nat))) De Df De Dn De Dn Dn Dn Df De De De Df Dn Dn Dn D0 De
 have ok1:(Cu.okey c0).2.Ok:=gd_ok (Cu.blob_ok ok0)
 generalize hz0:Cu.okey c0=z at *
 obtain ⟨v0,c1⟩:=z
 simp only at t0 ok1
 have t1:=take_ctx c1 ok1 (.s (.int .u8 3)) (.s (.int .u64 (id:Nat))) (.s (.string ⟨(v0).toArray⟩)) Df De Dn De Dn Dn Dn Df De De De Df Dn Dn Dn D0 De
 have ok2:(Cu.vec c1).2.Ok:=Cu.vec_ok ok1
 generalize hz1:Cu.vec c1=z at *
 obtain ⟨v1,c2⟩:=z
 simp only at t1 ok2
 have t2:=take_meta c2 ok2 (.s (.int .u8 3)) (.s (.int .u64 (id:Nat))) (.s (.string ⟨(v0).toArray⟩)) Df De Dn De Dn (.l v1.length (vecD v1)) Dn Df De De De Df Dn Dn Dn D0 De
 have ok3:(Cu.prs c2).2.Ok:=Cu.prs_ok ok2
 generalize hz2:Cu.prs c2=z at *
 obtain ⟨v2,c3⟩:=z
 simp only at t2 ok3
 have t3:=take_Dead c3 ok3 (.s (.int .u8 3)) (.s (.int .u64 (id:Nat))) (.s (.string ⟨(v0).toArray⟩)) Df De Dn De Dn (.l v1.length (vecD v1)) (.l v2.length (prsD v2)) Df De De De Df Dn Dn Dn D0 De
 have ok4:(Cu.flag c3).2.Ok:=Cu.flag_ok ok3
 generalize hz3:Cu.flag c3=z at *
 obtain ⟨v3,c4⟩:=z
 simp only at t3 ok4
 have t4:=take_Value c4 ok4 (.s (.int .u8 3)) (.s (.int .u64 (id:Nat))) (.s (.string ⟨(v0).toArray⟩)) Df De Dn De Dn (.l v1.length (vecD v1)) (.l v2.length (prsD v2)) (.s (.bool v3)) De De De Df Dn Dn Dn D0 De
 have ok5:(Cu.blob c4 32768).2.Ok:=Cu.blob_ok ok4
 generalize hz4:Cu.blob c4 32768=z at *
 obtain ⟨v4,c5⟩:=z
 simp only at t4 ok5
 have hm:Cu.msg 2 3 ⟨s,0,0⟩=(({ mg0 with kind:=3,id:=id,key:=v0,ctx:=v1,meta_:=v2,dead:=v3,val:=v4 }:Mg),c5):=by simp only [Cu.msg,Cu.mbody,h0,hz0,hz1,hz2,hz3,hz4]
 rw [hm]
 simp only
 have hen:=cursor_End c5.s c5.a c5.e ok5
 rw [show Cu.fin ⟨c5.s,c5.a,c5.e⟩=Cu.fin c5 from rfl] at hen
 generalize Cu.fin c5=d at *
 clear h0 hz0 hz1 hz2 hz3 hz4
 focus (have kk1:=uN [] hw;have kk2:=uN [] hnew;have kk3:=uN [17] hvt;(repeat' (first|refine G ?_|refine AW.ret ?_|(refine GC ?_ ?_<;>intro h<;>(try simp only [hsB] at h)<;>try exact xf)|(refine GL ?_ ?_<;>intro h<;>(try simp only [hsN] at h)<;>(try simp only [h])<;>(try simp only [hsB] at h)<;>try exact xf)|fail));all_goals clear kk1 kk2 kk3)
 all_goals first|exact xg|skip
 refine AW.rounds [6,7,10,11,31,32,33] (fun i:Nat=>[(6,.p 0 0),(7,iv .i64 0),(10,.p 17 0),(11,.p 18 0),(31,.b 16 0 5),(32,iv .i64 5),(33,iv .i64 (i:Nat))]) (fun i=>[.box 38 [.d (.s (.int .u8 0)),.d (.s (.int .u64 0)),.d De,.d Df,.d De,.d Dn,.d De,.d Dn,.d Dn,.d Dn,.d Df,.d De,.d De,.d De,.d Df,.d Dn,.d Dn,.d Dn,.d D0,.d De],qo29,.box 4 [bv true],qo22,qo10,qo26,qo15,qo30,.box 4 [bv false],qo23,qo11,qo27,qo13,qo28,.box 4 [bv false],qo24,qo0,Cu.ob (match i with|0=>c0|1=>c1|2=>c2|3=>c3|4=>c4|_=>c5),.box 38 [.d (.s (.int .u8 3)),.d (.s (.int .u64 (id:Nat))),.d ((match i with|0=>De|1=>.s (.string ⟨(v0).toArray⟩)|2=>.s (.string ⟨(v0).toArray⟩)|3=>.s (.string ⟨(v0).toArray⟩)|4=>.s (.string ⟨(v0).toArray⟩)|_=>.s (.string ⟨(v0).toArray⟩))),.d Df,.d De,.d Dn,.d De,.d Dn,.d ((match i with|0=>Dn|1=>Dn|2=>.l v1.length (vecD v1)|3=>.l v1.length (vecD v1)|4=>.l v1.length (vecD v1)|_=>.l v1.length (vecD v1))),.d ((match i with|0=>Dn|1=>Dn|2=>Dn|3=>.l v2.length (prsD v2)|4=>.l v2.length (prsD v2)|_=>.l v2.length (prsD v2))),.d ((match i with|0=>Df|1=>Df|2=>Df|3=>Df|4=>.s (.bool v3)|_=>.s (.bool v3))),.d ((match i with|0=>De|1=>De|2=>De|3=>De|4=>De|_=>.s (.string ⟨(v4).toArray⟩))),.d De,.d De,.d Df,.d Dn,.d Dn,.d Dn,.d D0,.d De]])
  (fun i=>i≤5) (fun i=>5-i) 0 (Nat.zero_le _) rfl rfl (fun _ _=>Nat.zero_le _) (fun i _=>rfl) (fun _ _=>rfl) ?_
 rintro i hi J hJ
 have hc:i=0∨i=1∨i=2∨i=3∨i=4∨i=5:=by omega
 rcases hc with rfl|rfl|rfl|rfl|rfl|rfl
 ·clear hw hnew hvt
  (have kk1:=uN [17,18,1,3,2] t0;have go:=fun zT zs=>hJ 1 zT zs (by decide) (by decide);exact Wdg)
 ·clear hw hnew hvt
  (have kk1:=uN [17,18] t1;have go:=fun zT zs=>hJ 2 zT zs (by decide) (by decide);exact Wdg)
 ·clear hw hnew hvt
  (have kk1:=uN [17,18] t2;have go:=fun zT zs=>hJ 3 zT zs (by decide) (by decide);exact Wdg)
 ·clear hw hnew hvt
  (have kk1:=uN [17,18,11] t3;have go:=fun zT zs=>hJ 4 zT zs (by decide) (by decide);exact Wdg)
 ·clear hw hnew hvt
  (have kk1:=uN [17,18,13,15,14] t4;have go:=fun zT zs=>hJ 5 zT zs (by decide) (by decide);exact Wdg)
 ·clear hw hnew hvt
  by_cases hd:d.e=0
  ·rw [if_neg (by simpa using hd)]
   rw [hd] at hen ⊢
   focus (have kk1:=uN [17] hen;(repeat' (first|refine G ?_|refine AW.ret ?_|(refine GC ?_ ?_<;>intro h<;>(try simp only [hsB] at h)<;>try exact xf)|(refine GL ?_ ?_<;>intro h<;>(try simp only [hsN] at h)<;>(try simp only [h])<;>(try simp only [hsB] at h)<;>try exact xf)|fail));all_goals clear kk1)
   all_goals first|exact RetQ.r (xs:=[.a [.d (.s (.int .u8 3)),.d (.s (.int .u64 (id:Nat))),.d (.s (.string ⟨(v0).toArray⟩)),.d Df,.d De,.d Dn,.d De,.d Dn,.d (.l v1.length (vecD v1)),.d (.l v2.length (prsD v2)),.d (.s (.bool v3)),.d (.s (.string ⟨(v4).toArray⟩)),.d De,.d De,.d Df,.d Dn,.d Dn,.d Dn,.d D0,.d De],iv .i64 0]) 0 rfl (Nat.le_of_ble_eq_true rfl) rfl rfl ⟨rfl,rfl⟩|exact RetQ.fr 0|exact RetQ.fn 0|exact xg
  ·rw [if_pos hd]
   (have kk1:=uN [17] hen;exact Wd0)
theorem decode_24(s:List UInt8)(hs:s.length≤140737488351232):AC Tryz.prog 9 [iv .u8 2,iv .u8 4,sv (bs s)] [] fun y σ=>y=.t [mgV (msgw 2 4 s).1,iv .i64 (msgw 2 4 s).2]∧σ=[]:=by
 refine AC.wk Tryz.func9 ?_
 have hok0:Cu.Ok ⟨s,0,0⟩:=⟨hs,Nat.zero_le _⟩
 have hw:=which_24
 have hnew:=@cursor_New s
 have hvt:=varint_Take s 0 0 hok0
 have ok0:(Cu.vtake ⟨s,0,0⟩).2.Ok:=Cu.vtake_ok hok0
 have hrw:msgw 2 4 s=(if (Cu.msg 2 4 ⟨s,0,0⟩).2.fin.e≠0 then mg0 else (Cu.msg 2 4 ⟨s,0,0⟩).1,(Cu.msg 2 4 ⟨s,0,0⟩).2.fin.e):=msgw_has rfl s
 rw [hrw]
 clear hrw
 generalize h0:Cu.vtake ⟨s,0,0⟩=z at *
 obtain ⟨id,c0⟩:=z
 simp only at hvt ok0
 have t0:=take_ctx c0 ok0 (.s (.int .u8 4)) (.s (.int .u64 (id:Nat))) De Df De Dn De Dn Dn Dn Df De De De Df Dn Dn Dn D0 De
 have ok1:(Cu.vec c0).2.Ok:=Cu.vec_ok ok0
 generalize hz0:Cu.vec c0=z at *
 obtain ⟨v0,c1⟩:=z
 simp only at t0 ok1
 have hm:Cu.msg 2 4 ⟨s,0,0⟩=(({ mg0 with kind:=4,id:=id,ctx:=v0 }:Mg),c1):=by simp only [Cu.msg,Cu.mbody,h0,hz0]
 rw [hm]
 simp only
 have hen:=cursor_End c1.s c1.a c1.e ok1
 rw [show Cu.fin ⟨c1.s,c1.a,c1.e⟩=Cu.fin c1 from rfl] at hen
 generalize Cu.fin c1=d at *
 clear h0 hz0
 focus (have kk1:=uN [] hw;have kk2:=uN [] hnew;have kk3:=uN [12] hvt;(repeat' (first|refine G ?_|refine AW.ret ?_|(refine GC ?_ ?_<;>intro h<;>(try simp only [hsB] at h)<;>try exact xf)|(refine GL ?_ ?_<;>intro h<;>(try simp only [hsN] at h)<;>(try simp only [h])<;>(try simp only [hsB] at h)<;>try exact xf)|fail));all_goals clear kk1 kk2 kk3)
 all_goals first|exact xg|skip
 refine AW.rounds [6,7,10,11,31,32,33] (fun i:Nat=>[(6,.p 0 0),(7,iv .i64 0),(10,.p 12 0),(11,.p 13 0),(31,.b 11 0 1),(32,iv .i64 1),(33,iv .i64 (i:Nat))]) (fun i=>[.box 38 [.d (.s (.int .u8 0)),.d (.s (.int .u64 0)),.d De,.d Df,.d De,.d Dn,.d De,.d Dn,.d Dn,.d Dn,.d Df,.d De,.d De,.d De,.d Df,.d Dn,.d Dn,.d Dn,.d D0,.d De],qo29,.box 4 [bv true],qo22,qo10,qo26,qo15,qo30,.box 4 [bv false],qo23,qo11,qo19,Cu.ob (match i with|0=>c0|_=>c1),.box 38 [.d (.s (.int .u8 4)),.d (.s (.int .u64 (id:Nat))),.d De,.d Df,.d De,.d Dn,.d De,.d Dn,.d ((match i with|0=>Dn|_=>.l v0.length (vecD v0))),.d Dn,.d Df,.d De,.d De,.d De,.d Df,.d Dn,.d Dn,.d Dn,.d D0,.d De]])
  (fun i=>i≤1) (fun i=>1-i) 0 (Nat.zero_le _) rfl rfl (fun _ _=>Nat.zero_le _) (fun i _=>rfl) (fun _ _=>rfl) ?_
 rintro i hi J hJ
 have hc:i=0∨i=1:=by omega
 rcases hc with rfl|rfl
 ·clear hw hnew hvt
  (have kk1:=uN [12,13] t0;have go:=fun zT zs=>hJ 1 zT zs (by decide) (by decide);exact Wdg)
 ·clear hw hnew hvt
  by_cases hd:d.e=0
  ·rw [if_neg (by simpa using hd)]
   rw [hd] at hen ⊢
   focus (have kk1:=uN [12] hen;(repeat' (first|refine G ?_|refine AW.ret ?_|(refine GC ?_ ?_<;>intro h<;>(try simp only [hsB] at h)<;>try exact xf)|(refine GL ?_ ?_<;>intro h<;>(try simp only [hsN] at h)<;>(try simp only [h])<;>(try simp only [hsB] at h)<;>try exact xf)|fail));all_goals clear kk1)
   all_goals first|exact RetQ.r (xs:=[.a [.d (.s (.int .u8 4)),.d (.s (.int .u64 (id:Nat))),.d De,.d Df,.d De,.d Dn,.d De,.d Dn,.d (.l v0.length (vecD v0)),.d Dn,.d Df,.d De,.d De,.d De,.d Df,.d Dn,.d Dn,.d Dn,.d D0,.d De],iv .i64 0]) 0 rfl (Nat.le_of_ble_eq_true rfl) rfl rfl ⟨rfl,rfl⟩|exact RetQ.fr 0|exact RetQ.fn 0|exact xg
  ·rw [if_pos hd]
   (have kk1:=uN [12] hen;exact Wd0)
theorem decode_25(s:List UInt8)(hs:s.length≤140737488351232):AC Tryz.prog 9 [iv .u8 2,iv .u8 5,sv (bs s)] [] fun y σ=>y=.t [mgV (msgw 2 5 s).1,iv .i64 (msgw 2 5 s).2]∧σ=[]:=by
 refine AC.wk Tryz.func9 ?_
 have hok0:Cu.Ok ⟨s,0,0⟩:=⟨hs,Nat.zero_le _⟩
 have hw:=which_25
 have hnew:=@cursor_New s
 have hvt:=varint_Take s 0 0 hok0
 have ok0:(Cu.vtake ⟨s,0,0⟩).2.Ok:=Cu.vtake_ok hok0
 have hrw:msgw 2 5 s=(if (Cu.msg 2 5 ⟨s,0,0⟩).2.fin.e≠0 then mg0 else (Cu.msg 2 5 ⟨s,0,0⟩).1,(Cu.msg 2 5 ⟨s,0,0⟩).2.fin.e):=msgw_has rfl s
 rw [hrw]
 clear hrw
 generalize h0:Cu.vtake ⟨s,0,0⟩=z at *
 obtain ⟨id,c0⟩:=z
 simp only at hvt ok0
 have t0:=take_Prefix c0 ok0 (.s (.int .u8 5)) (.s (.int .u64 (id:Nat))) De Df De Dn De Dn Dn Dn Df De De De Df Dn Dn Dn D0 De
 have ok1:(Cu.blob c0 31).2.Ok:=Cu.blob_ok ok0
 generalize hz0:Cu.blob c0 31=z at *
 obtain ⟨v0,c1⟩:=z
 simp only at t0 ok1
 have hm:Cu.msg 2 5 ⟨s,0,0⟩=(({ mg0 with kind:=5,id:=id,pre:=v0 }:Mg),c1):=by simp only [Cu.msg,Cu.mbody,h0,hz0]
 rw [hm]
 simp only
 have hen:=cursor_End c1.s c1.a c1.e ok1
 rw [show Cu.fin ⟨c1.s,c1.a,c1.e⟩=Cu.fin c1 from rfl] at hen
 generalize Cu.fin c1=d at *
 clear h0 hz0
 focus (have kk1:=uN [] hw;have kk2:=uN [] hnew;have kk3:=uN [15] hvt;(repeat' (first|refine G ?_|refine AW.ret ?_|(refine GC ?_ ?_<;>intro h<;>(try simp only [hsB] at h)<;>try exact xf)|(refine GL ?_ ?_<;>intro h<;>(try simp only [hsN] at h)<;>(try simp only [h])<;>(try simp only [hsB] at h)<;>try exact xf)|fail));all_goals clear kk1 kk2 kk3)
 all_goals first|exact xg|skip
 refine AW.rounds [6,7,10,11,31,32,33] (fun i:Nat=>[(6,.p 0 0),(7,iv .i64 0),(10,.p 15 0),(11,.p 16 0),(31,.b 14 0 1),(32,iv .i64 1),(33,iv .i64 (i:Nat))]) (fun i=>[.box 38 [.d (.s (.int .u8 0)),.d (.s (.int .u64 0)),.d De,.d Df,.d De,.d Dn,.d De,.d Dn,.d Dn,.d Dn,.d Df,.d De,.d De,.d De,.d Df,.d Dn,.d Dn,.d Dn,.d D0,.d De],qo29,.box 4 [bv true],qo22,qo10,qo26,qo15,qo30,.box 4 [bv false],qo23,qo11,qo31,.box 4 [bv false],qo25,qo6,Cu.ob (match i with|0=>c0|_=>c1),.box 38 [.d (.s (.int .u8 5)),.d (.s (.int .u64 (id:Nat))),.d De,.d Df,.d De,.d Dn,.d De,.d Dn,.d Dn,.d Dn,.d Df,.d De,.d ((match i with|0=>De|_=>.s (.string ⟨(v0).toArray⟩))),.d De,.d Df,.d Dn,.d Dn,.d Dn,.d D0,.d De]])
  (fun i=>i≤1) (fun i=>1-i) 0 (Nat.zero_le _) rfl rfl (fun _ _=>Nat.zero_le _) (fun i _=>rfl) (fun _ _=>rfl) ?_
 rintro i hi J hJ
 have hc:i=0∨i=1:=by omega
 rcases hc with rfl|rfl
 ·clear hw hnew hvt
  (have kk1:=uN [15,16,11,13,12] t0;have go:=fun zT zs=>hJ 1 zT zs (by decide) (by decide);exact Wdg)
 ·clear hw hnew hvt
  by_cases hd:d.e=0
  ·rw [if_neg (by simpa using hd)]
   rw [hd] at hen ⊢
   focus (have kk1:=uN [15] hen;(repeat' (first|refine G ?_|refine AW.ret ?_|(refine GC ?_ ?_<;>intro h<;>(try simp only [hsB] at h)<;>try exact xf)|(refine GL ?_ ?_<;>intro h<;>(try simp only [hsN] at h)<;>(try simp only [h])<;>(try simp only [hsB] at h)<;>try exact xf)|fail));all_goals clear kk1)
   all_goals first|exact RetQ.r (xs:=[.a [.d (.s (.int .u8 5)),.d (.s (.int .u64 (id:Nat))),.d De,.d Df,.d De,.d Dn,.d De,.d Dn,.d Dn,.d Dn,.d Df,.d De,.d (.s (.string ⟨(v0).toArray⟩)),.d De,.d Df,.d Dn,.d Dn,.d Dn,.d D0,.d De],iv .i64 0]) 0 rfl (Nat.le_of_ble_eq_true rfl) rfl rfl ⟨rfl,rfl⟩|exact RetQ.fr 0|exact RetQ.fn 0|exact xg
  ·rw [if_pos hd]
   (have kk1:=uN [15] hen;exact Wd0)
theorem decode_26(s:List UInt8)(hs:s.length≤140737488351232):AC Tryz.prog 9 [iv .u8 2,iv .u8 6,sv (bs s)] [] fun y σ=>y=.t [mgV (msgw 2 6 s).1,iv .i64 (msgw 2 6 s).2]∧σ=[]:=by
 refine AC.wk Tryz.func9 ?_
 have hok0:Cu.Ok ⟨s,0,0⟩:=⟨hs,Nat.zero_le _⟩
 have hw:=which_26
 have hnew:=@cursor_New s
 have hvt:=varint_Take s 0 0 hok0
 have ok0:(Cu.vtake ⟨s,0,0⟩).2.Ok:=Cu.vtake_ok hok0
 have hrw:msgw 2 6 s=(if (Cu.msg 2 6 ⟨s,0,0⟩).2.fin.e≠0 then mg0 else (Cu.msg 2 6 ⟨s,0,0⟩).1,(Cu.msg 2 6 ⟨s,0,0⟩).2.fin.e):=msgw_has rfl s
 rw [hrw]
 clear hrw
 generalize h0:Cu.vtake ⟨s,0,0⟩=z at *
 obtain ⟨id,c0⟩:=z
 simp only at hvt ok0
 have t0:=take_page c0 ok0 (.s (.int .u8 6)) (.s (.int .u64 (id:Nat))) De Df De Dn De Dn Dn Dn Df De De De Df Dn Dn Dn D0 De
 have ok1:(Cu.page c0).2.Ok:=Cu.page_ok ok0
 generalize hz0:Cu.page c0=z at *
 obtain ⟨v0,c1⟩:=z
 simp only at t0 ok1
 have hm:Cu.msg 2 6 ⟨s,0,0⟩=(({ mg0 with kind:=6,id:=id,page:=v0 }:Mg),c1):=by simp only [Cu.msg,Cu.mbody,h0,hz0]
 rw [hm]
 simp only
 have hen:=cursor_End c1.s c1.a c1.e ok1
 rw [show Cu.fin ⟨c1.s,c1.a,c1.e⟩=Cu.fin c1 from rfl] at hen
 generalize Cu.fin c1=d at *
 clear h0 hz0
 focus (have kk1:=uN [] hw;have kk2:=uN [] hnew;have kk3:=uN [12] hvt;(repeat' (first|refine G ?_|refine AW.ret ?_|(refine GC ?_ ?_<;>intro h<;>(try simp only [hsB] at h)<;>try exact xf)|(refine GL ?_ ?_<;>intro h<;>(try simp only [hsN] at h)<;>(try simp only [h])<;>(try simp only [hsB] at h)<;>try exact xf)|fail));all_goals clear kk1 kk2 kk3)
 all_goals first|exact xg|skip
 refine AW.rounds [6,7,10,11,31,32,33] (fun i:Nat=>[(6,.p 0 0),(7,iv .i64 0),(10,.p 12 0),(11,.p 13 0),(31,.b 11 0 1),(32,iv .i64 1),(33,iv .i64 (i:Nat))]) (fun i=>[.box 38 [.d (.s (.int .u8 0)),.d (.s (.int .u64 0)),.d De,.d Df,.d De,.d Dn,.d De,.d Dn,.d Dn,.d Dn,.d Df,.d De,.d De,.d De,.d Df,.d Dn,.d Dn,.d Dn,.d D0,.d De],qo29,.box 4 [bv true],qo22,qo10,qo26,qo15,qo30,.box 4 [bv false],qo23,qo11,qo20,Cu.ob (match i with|0=>c0|_=>c1),.box 38 [.d (.s (.int .u8 6)),.d (.s (.int .u64 (id:Nat))),.d De,.d Df,.d De,.d Dn,.d De,.d Dn,.d Dn,.d Dn,.d Df,.d De,.d De,.d ((match i with|0=>De|_=>.s (.string ⟨(v0.pre).toArray⟩))),.d ((match i with|0=>Df|_=>.s (.bool v0.leaf))),.d ((match i with|0=>Dn|_=>.l v0.slots.length (slsD v0.slots))),.d ((match i with|0=>Dn|_=>.l v0.items.length (itsD v0.items))),.d Dn,.d D0,.d De]])
  (fun i=>i≤1) (fun i=>1-i) 0 (Nat.zero_le _) rfl rfl (fun _ _=>Nat.zero_le _) (fun i _=>rfl) (fun _ _=>rfl) ?_
 rintro i hi J hJ
 have hc:i=0∨i=1:=by omega
 rcases hc with rfl|rfl
 ·clear hw hnew hvt
  (have kk1:=uN [12,13] t0;have go:=fun zT zs=>hJ 1 zT zs (by decide) (by decide);exact Wdg)
 ·clear hw hnew hvt
  by_cases hd:d.e=0
  ·rw [if_neg (by simpa using hd)]
   rw [hd] at hen ⊢
   focus (have kk1:=uN [12] hen;(repeat' (first|refine G ?_|refine AW.ret ?_|(refine GC ?_ ?_<;>intro h<;>(try simp only [hsB] at h)<;>try exact xf)|(refine GL ?_ ?_<;>intro h<;>(try simp only [hsN] at h)<;>(try simp only [h])<;>(try simp only [hsB] at h)<;>try exact xf)|fail));all_goals clear kk1)
   all_goals first|exact RetQ.r (xs:=[.a [.d (.s (.int .u8 6)),.d (.s (.int .u64 (id:Nat))),.d De,.d Df,.d De,.d Dn,.d De,.d Dn,.d Dn,.d Dn,.d Df,.d De,.d De,.d (.s (.string ⟨(v0.pre).toArray⟩)),.d (.s (.bool v0.leaf)),.d (.l v0.slots.length (slsD v0.slots)),.d (.l v0.items.length (itsD v0.items)),.d Dn,.d D0,.d De],iv .i64 0]) 0 rfl (Nat.le_of_ble_eq_true rfl) rfl rfl ⟨rfl,rfl⟩|exact RetQ.fr 0|exact RetQ.fn 0|exact xg
  ·rw [if_pos hd]
   (have kk1:=uN [12] hen;exact Wd0)
theorem decode_27(s:List UInt8)(hs:s.length≤140737488351232):AC Tryz.prog 9 [iv .u8 2,iv .u8 7,sv (bs s)] [] fun y σ=>y=.t [mgV (msgw 2 7 s).1,iv .i64 (msgw 2 7 s).2]∧σ=[]:=by
 refine AC.wk Tryz.func9 ?_
 have hok0:Cu.Ok ⟨s,0,0⟩:=⟨hs,Nat.zero_le _⟩
 have hw:=which_27
 have hnew:=@cursor_New s
 have hvt:=varint_Take s 0 0 hok0
 have ok0:(Cu.vtake ⟨s,0,0⟩).2.Ok:=Cu.vtake_ok hok0
 have hrw:msgw 2 7 s=(if (Cu.msg 2 7 ⟨s,0,0⟩).2.fin.e≠0 then mg0 else (Cu.msg 2 7 ⟨s,0,0⟩).1,(Cu.msg 2 7 ⟨s,0,0⟩).2.fin.e):=msgw_has rfl s
 rw [hrw]
 clear hrw
 generalize h0:Cu.vtake ⟨s,0,0⟩=z at *
 obtain ⟨id,c0⟩:=z
 simp only at hvt ok0
 have t0:=take_ring c0 ok0 (.s (.int .u8 7)) (.s (.int .u64 (id:Nat))) De Df De Dn De Dn Dn Dn Df De De De Df Dn Dn Dn D0 De
 have ok1:(Cu.ring c0).2.Ok:=Cu.ring_ok ok0
 generalize hz0:Cu.ring c0=z at *
 obtain ⟨v0,c1⟩:=z
 simp only at t0 ok1
 have hm:Cu.msg 2 7 ⟨s,0,0⟩=(({ mg0 with kind:=7,id:=id,ring:=v0 }:Mg),c1):=by simp only [Cu.msg,Cu.mbody,h0,hz0]
 rw [hm]
 simp only
 have hen:=cursor_End c1.s c1.a c1.e ok1
 rw [show Cu.fin ⟨c1.s,c1.a,c1.e⟩=Cu.fin c1 from rfl] at hen
 generalize Cu.fin c1=d at *
 clear h0 hz0
 focus (have kk1:=uN [] hw;have kk2:=uN [] hnew;have kk3:=uN [12] hvt;(repeat' (first|refine G ?_|refine AW.ret ?_|(refine GC ?_ ?_<;>intro h<;>(try simp only [hsB] at h)<;>try exact xf)|(refine GL ?_ ?_<;>intro h<;>(try simp only [hsN] at h)<;>(try simp only [h])<;>(try simp only [hsB] at h)<;>try exact xf)|fail));all_goals clear kk1 kk2 kk3)
 all_goals first|exact xg|skip
 refine AW.rounds [6,7,10,11,31,32,33] (fun i:Nat=>[(6,.p 0 0),(7,iv .i64 0),(10,.p 12 0),(11,.p 13 0),(31,.b 11 0 1),(32,iv .i64 1),(33,iv .i64 (i:Nat))]) (fun i=>[.box 38 [.d (.s (.int .u8 0)),.d (.s (.int .u64 0)),.d De,.d Df,.d De,.d Dn,.d De,.d Dn,.d Dn,.d Dn,.d Df,.d De,.d De,.d De,.d Df,.d Dn,.d Dn,.d Dn,.d D0,.d De],qo29,.box 4 [bv true],qo22,qo10,qo26,qo15,qo30,.box 4 [bv false],qo23,qo11,qo21,Cu.ob (match i with|0=>c0|_=>c1),.box 38 [.d (.s (.int .u8 7)),.d (.s (.int .u64 (id:Nat))),.d De,.d Df,.d De,.d Dn,.d De,.d Dn,.d Dn,.d Dn,.d Df,.d De,.d De,.d De,.d Df,.d Dn,.d Dn,.d ((match i with|0=>Dn|_=>.l v0.length (ringD v0))),.d D0,.d De]])
  (fun i=>i≤1) (fun i=>1-i) 0 (Nat.zero_le _) rfl rfl (fun _ _=>Nat.zero_le _) (fun i _=>rfl) (fun _ _=>rfl) ?_
 rintro i hi J hJ
 have hc:i=0∨i=1:=by omega
 rcases hc with rfl|rfl
 ·clear hw hnew hvt
  (have kk1:=uN [12,13] t0;have go:=fun zT zs=>hJ 1 zT zs (by decide) (by decide);exact Wdg)
 ·clear hw hnew hvt
  by_cases hd:d.e=0
  ·rw [if_neg (by simpa using hd)]
   rw [hd] at hen ⊢
   focus (have kk1:=uN [12] hen;(repeat' (first|refine G ?_|refine AW.ret ?_|(refine GC ?_ ?_<;>intro h<;>(try simp only [hsB] at h)<;>try exact xf)|(refine GL ?_ ?_<;>intro h<;>(try simp only [hsN] at h)<;>(try simp only [h])<;>(try simp only [hsB] at h)<;>try exact xf)|fail));all_goals clear kk1)
   all_goals first|exact RetQ.r (xs:=[.a [.d (.s (.int .u8 7)),.d (.s (.int .u64 (id:Nat))),.d De,.d Df,.d De,.d Dn,.d De,.d Dn,.d Dn,.d Dn,.d Df,.d De,.d De,.d De,.d Df,.d Dn,.d Dn,.d (.l v0.length (ringD v0)),.d D0,.d De],iv .i64 0]) 0 rfl (Nat.le_of_ble_eq_true rfl) rfl rfl ⟨rfl,rfl⟩|exact RetQ.fr 0|exact RetQ.fn 0|exact xg
  ·rw [if_pos hd]
   (have kk1:=uN [12] hen;exact Wd0)
theorem decode_28(s:List UInt8)(hs:s.length≤140737488351232):AC Tryz.prog 9 [iv .u8 2,iv .u8 8,sv (bs s)] [] fun y σ=>y=.t [mgV (msgw 2 8 s).1,iv .i64 (msgw 2 8 s).2]∧σ=[]:=by
 refine AC.wk Tryz.func9 ?_
 have hok0:Cu.Ok ⟨s,0,0⟩:=⟨hs,Nat.zero_le _⟩
 have hw:=which_28
 have hnew:=@cursor_New s
 have hvt:=varint_Take s 0 0 hok0
 have ok0:(Cu.vtake ⟨s,0,0⟩).2.Ok:=Cu.vtake_ok hok0
 have hrw:msgw 2 8 s=(if (Cu.msg 2 8 ⟨s,0,0⟩).2.fin.e≠0 then mg0 else (Cu.msg 2 8 ⟨s,0,0⟩).1,(Cu.msg 2 8 ⟨s,0,0⟩).2.fin.e):=msgw_has rfl s
 rw [hrw]
 clear hrw
 generalize h0:Cu.vtake ⟨s,0,0⟩=z at *
 obtain ⟨id,c0⟩:=z
 simp only at hvt ok0
 have t0:=take_code c0 ok0 (.s (.int .u8 8)) (.s (.int .u64 (id:Nat))) De Df De Dn De Dn Dn Dn Df De De De Df Dn Dn Dn D0 De
 have ok1:(Cu.count c0 255).2.Ok:=Cu.count_ok ok0
 generalize hz0:Cu.count c0 255=z at *
 obtain ⟨v0,c1⟩:=z
 simp only at t0 ok1
 have t1:=take_Text c1 ok1 (.s (.int .u8 8)) (.s (.int .u64 (id:Nat))) De Df De Dn De Dn Dn Dn Df De De De Df Dn Dn Dn (.s (.int .i64 (v0:Nat))) De
 have ok2:(Cu.blob c1 64).2.Ok:=Cu.blob_ok ok1
 generalize hz1:Cu.blob c1 64=z at *
 obtain ⟨v1,c2⟩:=z
 simp only at t1 ok2
 have hm:Cu.msg 2 8 ⟨s,0,0⟩=(({ mg0 with kind:=8,id:=id,code:=(v0:Nat),txt:=v1 }:Mg),c2):=by simp only [Cu.msg,Cu.mbody,h0,hz0,hz1]
 rw [hm]
 simp only
 have hen:=cursor_End c2.s c2.a c2.e ok2
 rw [show Cu.fin ⟨c2.s,c2.a,c2.e⟩=Cu.fin c2 from rfl] at hen
 generalize Cu.fin c2=d at *
 clear h0 hz0 hz1
 focus (have kk1:=uN [] hw;have kk2:=uN [] hnew;have kk3:=uN [12] hvt;(repeat' (first|refine G ?_|refine AW.ret ?_|(refine GC ?_ ?_<;>intro h<;>(try simp only [hsB] at h)<;>try exact xf)|(refine GL ?_ ?_<;>intro h<;>(try simp only [hsN] at h)<;>(try simp only [h])<;>(try simp only [hsB] at h)<;>try exact xf)|fail));all_goals clear kk1 kk2 kk3)
 all_goals first|exact xg|skip
 refine AW.rounds [6,7,10,11,31,32,33] (fun i:Nat=>[(6,.p 0 0),(7,iv .i64 0),(10,.p 12 0),(11,.p 13 0),(31,.b 11 0 2),(32,iv .i64 2),(33,iv .i64 (i:Nat))]) (fun i=>[.box 38 [.d (.s (.int .u8 0)),.d (.s (.int .u64 0)),.d De,.d Df,.d De,.d Dn,.d De,.d Dn,.d Dn,.d Dn,.d Df,.d De,.d De,.d De,.d Df,.d Dn,.d Dn,.d Dn,.d D0,.d De],qo29,.box 4 [bv true],qo22,qo10,qo26,qo15,qo30,.box 4 [bv false],qo23,qo11,qo2,Cu.ob (match i with|0=>c0|1=>c1|_=>c2),.box 38 [.d (.s (.int .u8 8)),.d (.s (.int .u64 (id:Nat))),.d De,.d Df,.d De,.d Dn,.d De,.d Dn,.d Dn,.d Dn,.d Df,.d De,.d De,.d De,.d Df,.d Dn,.d Dn,.d Dn,.d ((match i with|0=>D0|1=>.s (.int .i64 (v0:Nat))|_=>.s (.int .i64 (v0:Nat)))),.d ((match i with|0=>De|1=>De|_=>.s (.string ⟨(v1).toArray⟩)))]])
  (fun i=>i≤2) (fun i=>2-i) 0 (Nat.zero_le _) rfl rfl (fun _ _=>Nat.zero_le _) (fun i _=>rfl) (fun _ _=>rfl) ?_
 rintro i hi J hJ
 have hc:i=0∨i=1∨i=2:=by omega
 rcases hc with rfl|rfl|rfl
 ·clear hw hnew hvt
  (have kk1:=uN [12,13] t0;have go:=fun zT zs=>hJ 1 zT zs (by decide) (by decide);exact Wdg)
 ·clear hw hnew hvt
  (have kk1:=uN [12,13,7,9,8] t1;have go:=fun zT zs=>hJ 2 zT zs (by decide) (by decide);exact Wdg)
 ·clear hw hnew hvt
  by_cases hd:d.e=0
  ·rw [if_neg (by simpa using hd)]
   rw [hd] at hen ⊢
   focus (have kk1:=uN [12] hen;(repeat' (first|refine G ?_|refine AW.ret ?_|(refine GC ?_ ?_<;>intro h<;>(try simp only [hsB] at h)<;>try exact xf)|(refine GL ?_ ?_<;>intro h<;>(try simp only [hsN] at h)<;>(try simp only [h])<;>(try simp only [hsB] at h)<;>try exact xf)|fail));all_goals clear kk1)
   all_goals first|exact RetQ.r (xs:=[.a [.d (.s (.int .u8 8)),.d (.s (.int .u64 (id:Nat))),.d De,.d Df,.d De,.d Dn,.d De,.d Dn,.d Dn,.d Dn,.d Df,.d De,.d De,.d De,.d Df,.d Dn,.d Dn,.d Dn,.d (.s (.int .i64 (v0:Nat))),.d (.s (.string ⟨(v1).toArray⟩))],iv .i64 0]) 0 rfl (Nat.le_of_ble_eq_true rfl) rfl rfl ⟨rfl,rfl⟩|exact RetQ.fr 0|exact RetQ.fn 0|exact xg
  ·rw [if_pos hd]
   (have kk1:=uN [12] hen;exact Wd0)
theorem decode_29(s:List UInt8)(hs:s.length≤140737488351232):AC Tryz.prog 9 [iv .u8 2,iv .u8 9,sv (bs s)] [] fun y σ=>y=.t [mgV (msgw 2 9 s).1,iv .i64 (msgw 2 9 s).2]∧σ=[]:=by
 refine AC.wk Tryz.func9 ?_
 have hok0:Cu.Ok ⟨s,0,0⟩:=⟨hs,Nat.zero_le _⟩
 have hw:=which_29
 have hnew:=@cursor_New s
 have hvt:=varint_Take s 0 0 hok0
 have ok0:(Cu.vtake ⟨s,0,0⟩).2.Ok:=Cu.vtake_ok hok0
 have hrw:msgw 2 9 s=(if (Cu.msg 2 9 ⟨s,0,0⟩).2.fin.e≠0 then mg0 else (Cu.msg 2 9 ⟨s,0,0⟩).1,(Cu.msg 2 9 ⟨s,0,0⟩).2.fin.e):=msgw_has rfl s
 rw [hrw]
 clear hrw
 generalize h0:Cu.vtake ⟨s,0,0⟩=z at *
 obtain ⟨id,c0⟩:=z
 simp only at hvt ok0
 have hbl:=blob_le64 c0
 have hn:Cu.nest Cu.obj oj0 c0=if (Cu.blob c0 65536).2.e=0 then ((objw (Cu.blob c0 65536).1).1,(Cu.blob c0 65536).2.fail (objw (Cu.blob c0 65536).1).2) else (oj0,(Cu.blob c0 65536).2):=rfl
 have hbo:(Cu.blob c0 65536).2.Ok:=Cu.blob_ok ok0
 by_cases hb:(Cu.blob c0 65536).2.e=0
 ·rw [if_pos hb] at hn
  have t0:=take_object c0 ok0 (.s (.int .u8 9)) (.s (.int .u64 (id:Nat))) De Df De Dn De Dn Dn Dn Df De De De Df Dn Dn Dn D0 De hbl hb
  generalize objw (Cu.blob c0 65536).1=w at *
  obtain ⟨w1,w2⟩:=w
  have okn:((Cu.blob c0 65536).2.fail w2).Ok:=hbo
  simp only at t0 hn
  generalize (Cu.blob c0 65536).2.fail w2=cn at *
  have hm:Cu.msg 2 9 ⟨s,0,0⟩=(({ mg0 with kind:=9,id:=id,obj:=w1 }:Mg),cn):=by simp only [Cu.msg,Cu.mbody,h0,hn];try rfl
  rw [hm]
  simp only
  have hen:=cursor_End cn.s cn.a cn.e okn
  rw [show Cu.fin ⟨cn.s,cn.a,cn.e⟩=Cu.fin cn from rfl] at hen
  generalize Cu.fin cn=d at *
  clear h0 hn
  focus (have kk1:=uN [] hw;have kk2:=uN [] hnew;have kk3:=uN [12] hvt;(repeat' (first|refine G ?_|refine AW.ret ?_|(refine GC ?_ ?_<;>intro h<;>(try simp only [hsB] at h)<;>try exact xf)|(refine GL ?_ ?_<;>intro h<;>(try simp only [hsN] at h)<;>(try simp only [h])<;>(try simp only [hsB] at h)<;>try exact xf)|fail));all_goals clear kk1 kk2 kk3)
  all_goals first|exact xg|skip
  refine AW.rounds [6,7,10,11,31,32,33] (fun i:Nat=>[(6,.p 0 0),(7,iv .i64 0),(10,.p 12 0),(11,.p 13 0),(31,.b 11 0 1),(32,iv .i64 1),(33,iv .i64 (i:Nat))]) (fun i=>[.box 38 [.d (.s (.int .u8 0)),.d (.s (.int .u64 0)),.d De,.d Df,.d De,.d Dn,.d De,.d Dn,.d Dn,.d Dn,.d Df,.d De,.d De,.d De,.d Df,.d Dn,.d Dn,.d Dn,.d D0,.d De],qo29,.box 4 [bv true],qo22,qo10,qo26,qo15,qo30,.box 4 [bv false],qo23,qo11,qo17,Cu.ob (match i with|0=>c0|_=>cn),.box 38 [.d (.s (.int .u8 9)),.d (.s (.int .u64 (id:Nat))),.d De,.d Df,.d ((match i with|0=>De|_=>.s (.string ⟨(w1.key).toArray⟩))),.d ((match i with|0=>Dn|_=>.l w1.sibs.length (sbsD w1.sibs))),.d De,.d Dn,.d Dn,.d Dn,.d Df,.d De,.d De,.d De,.d Df,.d Dn,.d Dn,.d Dn,.d D0,.d De]])
   (fun i=>i≤1) (fun i=>1-i) 0 (Nat.zero_le _) rfl rfl (fun _ _=>Nat.zero_le _) (fun i _=>rfl) (fun _ _=>rfl) ?_
  rintro i hi J hJ
  have hc:i=0∨i=1:=by omega
  rcases hc with rfl|rfl
  ·clear hw hnew hvt
   (have kk1:=uN [12,13] t0;have go:=fun zT zs=>hJ 1 zT zs (by decide) (by decide);exact Wdg)
  ·clear hw hnew hvt
   by_cases hd:d.e=0
   ·rw [if_neg (by simpa using hd)]
    rw [hd] at hen ⊢
    focus (have kk1:=uN [12] hen;(repeat' (first|refine G ?_|refine AW.ret ?_|(refine GC ?_ ?_<;>intro h<;>(try simp only [hsB] at h)<;>try exact xf)|(refine GL ?_ ?_<;>intro h<;>(try simp only [hsN] at h)<;>(try simp only [h])<;>(try simp only [hsB] at h)<;>try exact xf)|fail));all_goals clear kk1)
    all_goals first|exact RetQ.r (xs:=[.a [.d (.s (.int .u8 9)),.d (.s (.int .u64 (id:Nat))),.d De,.d Df,.d (.s (.string ⟨(w1.key).toArray⟩)),.d (.l w1.sibs.length (sbsD w1.sibs)),.d De,.d Dn,.d Dn,.d Dn,.d Df,.d De,.d De,.d De,.d Df,.d Dn,.d Dn,.d Dn,.d D0,.d De],iv .i64 0]) 0 rfl (Nat.le_of_ble_eq_true rfl) rfl rfl ⟨rfl,rfl⟩|exact RetQ.fr 0|exact RetQ.fn 0|exact xg
   ·rw [if_pos hd]
    (have kk1:=uN [12] hen;exact Wd0)
 ·rw [if_neg hb] at hn
  have t0:=takf_object c0 ok0 (.s (.int .u8 9)) (.s (.int .u64 (id:Nat))) De Df De Dn De Dn Dn Dn Df De De De Df Dn Dn Dn D0 De hb
  have okn:=hbo
  generalize (Cu.blob c0 65536).2=cn at *
  have hm:Cu.msg 2 9 ⟨s,0,0⟩=(({ mg0 with kind:=9,id:=id }:Mg),cn):=by simp only [Cu.msg,Cu.mbody,h0,hn];try rfl
  rw [hm]
  simp only
  have hen:=cursor_End cn.s cn.a cn.e okn
  rw [show Cu.fin ⟨cn.s,cn.a,cn.e⟩=Cu.fin cn from rfl] at hen
  generalize Cu.fin cn=d at *
  clear h0 hn
  focus (have kk1:=uN [] hw;have kk2:=uN [] hnew;have kk3:=uN [12] hvt;(repeat' (first|refine G ?_|refine AW.ret ?_|(refine GC ?_ ?_<;>intro h<;>(try simp only [hsB] at h)<;>try exact xf)|(refine GL ?_ ?_<;>intro h<;>(try simp only [hsN] at h)<;>(try simp only [h])<;>(try simp only [hsB] at h)<;>try exact xf)|fail));all_goals clear kk1 kk2 kk3)
  all_goals first|exact xg|skip
  refine AW.rounds [6,7,10,11,31,32,33] (fun i:Nat=>[(6,.p 0 0),(7,iv .i64 0),(10,.p 12 0),(11,.p 13 0),(31,.b 11 0 1),(32,iv .i64 1),(33,iv .i64 (i:Nat))]) (fun i=>[.box 38 [.d (.s (.int .u8 0)),.d (.s (.int .u64 0)),.d De,.d Df,.d De,.d Dn,.d De,.d Dn,.d Dn,.d Dn,.d Df,.d De,.d De,.d De,.d Df,.d Dn,.d Dn,.d Dn,.d D0,.d De],qo29,.box 4 [bv true],qo22,qo10,qo26,qo15,qo30,.box 4 [bv false],qo23,qo11,qo17,Cu.ob (match i with|0=>c0|_=>cn),.box 38 [.d (.s (.int .u8 9)),.d (.s (.int .u64 (id:Nat))),.d De,.d Df,.d De,.d Dn,.d De,.d Dn,.d Dn,.d Dn,.d Df,.d De,.d De,.d De,.d Df,.d Dn,.d Dn,.d Dn,.d D0,.d De]])
   (fun i=>i≤1) (fun i=>1-i) 0 (Nat.zero_le _) rfl rfl (fun _ _=>Nat.zero_le _) (fun i _=>rfl) (fun _ _=>rfl) ?_
  rintro i hi J hJ
  have hc:i=0∨i=1:=by omega
  rcases hc with rfl|rfl
  ·clear hw hnew hvt
   (have kk1:=uN [12,13] t0;have go:=fun zT zs=>hJ 1 zT zs (by decide) (by decide);exact Wdg)
  ·clear hw hnew hvt
   by_cases hd:d.e=0
   ·rw [if_neg (by simpa using hd)]
    rw [hd] at hen ⊢
    focus (have kk1:=uN [12] hen;(repeat' (first|refine G ?_|refine AW.ret ?_|(refine GC ?_ ?_<;>intro h<;>(try simp only [hsB] at h)<;>try exact xf)|(refine GL ?_ ?_<;>intro h<;>(try simp only [hsN] at h)<;>(try simp only [h])<;>(try simp only [hsB] at h)<;>try exact xf)|fail));all_goals clear kk1)
    all_goals first|exact RetQ.r (xs:=[.a [.d (.s (.int .u8 9)),.d (.s (.int .u64 (id:Nat))),.d De,.d Df,.d De,.d Dn,.d De,.d Dn,.d Dn,.d Dn,.d Df,.d De,.d De,.d De,.d Df,.d Dn,.d Dn,.d Dn,.d D0,.d De],iv .i64 0]) 0 rfl (Nat.le_of_ble_eq_true rfl) rfl rfl ⟨rfl,rfl⟩|exact RetQ.fr 0|exact RetQ.fn 0|exact xg
   ·rw [if_pos hd]
    (have kk1:=uN [12] hen;exact Wd0)
end Go.AW
