/-
  a message's parts: the check of a whole message.
-/
import Derived.Test.YtdnfcckkdnkaiaaGreatU13
import Derived.Test.YtdnfcckkdnkaiaaGreatU16
import Derived.Test.YtdnfcckkdnkaiaaGreatU26
set_option linter.unusedVariables false
set_option linter.unusedSimpArgs false
set_option maxHeartbeats 4000000
set_option maxRecDepth 10000
namespace Go.AW
open Go Go.Proofs
attribute [local irreducible] thenQ blockQ RetQ AL AW AC AOp
theorem check_none(v:Nat)(m:Mg)(hv:v<256)(hk:m.kind<256)(h:has v m.kind=false):AC Tryz.prog 13 [iv .u8 (v:Nat),mgV m] [] fun y σ=>y=iv .i64 (m.check v)∧σ=[]:=by
 refine AC.wk Tryz.func13 ?_
 have hw:=which_none v m.kind hv hk h
 have hr:m.check v=if v≠1∧v≠2 then 10 else 11:=by unfold Mg.check;rw [if_pos h]
 have hr0:m.check v≠0:=by rw [hr];split<;>decide
 rw [←hr] at hw
 generalize m.check v=r at *
 (have kk1:=uN [] hw;exact Wd0)
theorem check_11(m:Mg)(hf:m.fits)(hk:m.kind=1):AC Tryz.prog 13 [iv .u8 1,mgV m] [] fun y σ=>y=iv .i64 (m.check 1)∧σ=[]:=by
 refine AC.wk Tryz.func13 ?_
 obtain ⟨knd,id,key,fnd,obj,old,ctx,mt,dd,vl,px,pg,rg,cd,tx⟩:=m
 simp only at hk
 subst hk
 have hw:=which_11
 have c0:=check_Key ⟨1,id,key,fnd,obj,old,ctx,mt,dd,vl,px,pg,rg,cd,tx⟩ hf
 have hr:Mg.check 1 ⟨1,id,key,fnd,obj,old,ctx,mt,dd,vl,px,pg,rg,cd,tx⟩=keychk key:=rfl
 rw [hr]
 clear hr
 simp only at c0
 generalize (keychk key)=r0 at *
 focus (have kk1:=uN [] hw;(repeat' (first|refine G ?_|refine AW.ret ?_|(refine GC ?_ ?_<;>intro h<;>(try simp only [hsB] at h)<;>try exact xf)|(refine GL ?_ ?_<;>intro h<;>(try simp only [hsN] at h)<;>(try simp only [h])<;>(try simp only [hsB] at h)<;>try exact xf)|fail));all_goals clear kk1)
 all_goals first|exact xg|skip
 refine AW.rounds [3,4,20,21,22] (fun i:Nat=>[(3,.p 0 0),(4,iv .i64 0),(20,.b 11 0 1),(21,iv .i64 1),(22,iv .i64 (i:Nat))]) (fun _=>[.box 38 (mgC ⟨1,id,key,fnd,obj,old,ctx,mt,dd,vl,px,pg,rg,cd,tx⟩),qo29,.box 4 [bv true],qo22,qo10,qo26,qo15,qo30,.box 4 [bv false],qo23,qo11,qo10])
  (fun i=>i≤1∧(1≤i→r0=0)) (fun i=>1-i) 0 ⟨Nat.zero_le _,fun h=>absurd h (by decide)⟩ rfl rfl (fun _ _=>Nat.zero_le _) (fun _ _=>rfl) (fun _ _=>rfl) ?_
 rintro i ⟨hi,g0⟩ J hJ
 have hc:i=0∨i=1:=by omega
 rcases hc with rfl|rfl
 ·clear hw
  by_cases hz:r0=0
  ·(have kk1:=uN [2,3,1] c0;have go:=fun zT zs=>hJ 1 zT zs (by decide) ⟨by decide,fun h=>hz⟩;exact Wdg)
  ·have hv:(r0)=r0:=by rfl
   rw [hv]
   (have kk1:=uN [2,3,1] c0;exact Wd0)
 ·clear hw
  have hv:(r0)=0:=by exact g0 (by decide)
  rw [hv]
  exact Wd0
theorem check_12(m:Mg)(hf:m.fits)(hk:m.kind=2):AC Tryz.prog 13 [iv .u8 1,mgV m] [] fun y σ=>y=iv .i64 (m.check 1)∧σ=[]:=by
 refine AC.wk Tryz.func13 ?_
 obtain ⟨knd,id,key,fnd,obj,old,ctx,mt,dd,vl,px,pg,rg,cd,tx⟩:=m
 simp only at hk
 subst hk
 have hw:=which_12
 have c0:=check_flag ⟨2,id,key,fnd,obj,old,ctx,mt,dd,vl,px,pg,rg,cd,tx⟩
 have c1:=check_found_old ⟨2,id,key,fnd,obj,old,ctx,mt,dd,vl,px,pg,rg,cd,tx⟩ hf
 have hr:Mg.check 1 ⟨2,id,key,fnd,obj,old,ctx,mt,dd,vl,px,pg,rg,cd,tx⟩=if fnd=true then old.check else 0:=rfl
 rw [hr]
 clear hr
 simp only at c1
 generalize (if fnd=true then old.check else 0)=r1 at *
 focus (have kk1:=uN [] hw;(repeat' (first|refine G ?_|refine AW.ret ?_|(refine GC ?_ ?_<;>intro h<;>(try simp only [hsB] at h)<;>try exact xf)|(refine GL ?_ ?_<;>intro h<;>(try simp only [hsN] at h)<;>(try simp only [h])<;>(try simp only [hsB] at h)<;>try exact xf)|fail));all_goals clear kk1)
 all_goals first|exact xg|skip
 refine AW.rounds [3,4,20,21,22] (fun i:Nat=>[(3,.p 0 0),(4,iv .i64 0),(20,.b 12 0 2),(21,iv .i64 2),(22,iv .i64 (i:Nat))]) (fun _=>[.box 38 (mgC ⟨2,id,key,fnd,obj,old,ctx,mt,dd,vl,px,pg,rg,cd,tx⟩),qo29,.box 4 [bv true],qo22,qo10,qo26,qo15,qo30,.box 4 [bv false],qo23,qo11,qo18,qo4])
  (fun i=>i≤2∧(2≤i→r1=0)) (fun i=>2-i) 0 ⟨Nat.zero_le _,fun h=>absurd h (by decide)⟩ rfl rfl (fun _ _=>Nat.zero_le _) (fun _ _=>rfl) (fun _ _=>rfl) ?_
 rintro i ⟨hi,g1⟩ J hJ
 have hc:i=0∨i=1∨i=2:=by omega
 rcases hc with rfl|rfl|rfl
 ·clear hw
  (have kk1:=uN [] c0;have go:=fun zT zs=>hJ 1 zT zs (by decide) ⟨by decide,fun h=>absurd h (by decide)⟩;exact Wdg)
 ·clear hw
  by_cases hz:r1=0
  ·(have kk1:=uN [11] c1;have go:=fun zT zs=>hJ 2 zT zs (by decide) ⟨by decide,fun h=>hz⟩;exact Wdg)
  ·have hv:(r1)=r1:=by rfl
   rw [hv]
   (have kk1:=uN [11] c1;exact Wd0)
 ·clear hw
  have hv:(r1)=0:=by exact g1 (by decide)
  rw [hv]
  exact Wd0
theorem check_18(m:Mg)(hf:m.fits)(hk:m.kind=8):AC Tryz.prog 13 [iv .u8 1,mgV m] [] fun y σ=>y=iv .i64 (m.check 1)∧σ=[]:=by
 refine AC.wk Tryz.func13 ?_
 obtain ⟨knd,id,key,fnd,obj,old,ctx,mt,dd,vl,px,pg,rg,cd,tx⟩:=m
 simp only at hk
 subst hk
 have hw:=which_18
 have c0:=check_code ⟨8,id,key,fnd,obj,old,ctx,mt,dd,vl,px,pg,rg,cd,tx⟩ hf
 have c1:=check_Text ⟨8,id,key,fnd,obj,old,ctx,mt,dd,vl,px,pg,rg,cd,tx⟩ hf
 have hr:Mg.check 1 ⟨8,id,key,fnd,obj,old,ctx,mt,dd,vl,px,pg,rg,cd,tx⟩=fst0 (codechk cd) (longchk tx 64):=rfl
 rw [hr]
 clear hr
 simp only at c0
 generalize (codechk cd)=r0 at *
 simp only at c1
 generalize (longchk tx 64)=r1 at *
 focus (have kk1:=uN [] hw;(repeat' (first|refine G ?_|refine AW.ret ?_|(refine GC ?_ ?_<;>intro h<;>(try simp only [hsB] at h)<;>try exact xf)|(refine GL ?_ ?_<;>intro h<;>(try simp only [hsN] at h)<;>(try simp only [h])<;>(try simp only [hsB] at h)<;>try exact xf)|fail));all_goals clear kk1)
 all_goals first|exact xg|skip
 refine AW.rounds [3,4,20,21,22] (fun i:Nat=>[(3,.p 0 0),(4,iv .i64 0),(20,.b 11 0 2),(21,iv .i64 2),(22,iv .i64 (i:Nat))]) (fun _=>[.box 38 (mgC ⟨8,id,key,fnd,obj,old,ctx,mt,dd,vl,px,pg,rg,cd,tx⟩),qo29,.box 4 [bv true],qo22,qo10,qo26,qo15,qo30,.box 4 [bv false],qo23,qo11,qo2])
  (fun i=>i≤2∧(1≤i→r0=0)∧(2≤i→r1=0)) (fun i=>2-i) 0 ⟨Nat.zero_le _,fun h=>absurd h (by decide),fun h=>absurd h (by decide)⟩ rfl rfl (fun _ _=>Nat.zero_le _) (fun _ _=>rfl) (fun _ _=>rfl) ?_
 rintro i ⟨hi,g0,g1⟩ J hJ
 have hc:i=0∨i=1∨i=2:=by omega
 rcases hc with rfl|rfl|rfl
 ·clear hw
  by_cases hz:r0=0
  ·(have kk1:=uN [] c0;have go:=fun zT zs=>hJ 1 zT zs (by decide) ⟨by decide,fun h=>hz,fun h=>absurd h (by decide)⟩;exact Wdg)
  ·have hv:(fst0 r0 r1)=r0:=by simp [fst0,hz]
   rw [hv]
   (have kk1:=uN [] c0;exact Wd0)
 ·clear hw
  by_cases hz:r1=0
  ·(have kk1:=uN [8,9,7] c1;have go:=fun zT zs=>hJ 2 zT zs (by decide) ⟨by decide,fun h=>g0 (by decide),fun h=>hz⟩;exact Wdg)
  ·have hv:(fst0 r0 r1)=r1:=by simp [fst0,g0 (by decide),hz]
   rw [hv]
   (have kk1:=uN [8,9,7] c1;exact Wd0)
 ·clear hw
  have hv:(fst0 r0 r1)=0:=by simp [fst0,g0 (by decide),g1 (by decide)]
  rw [hv]
  exact Wd0
theorem check_21(m:Mg)(hf:m.fits)(hk:m.kind=1):AC Tryz.prog 13 [iv .u8 2,mgV m] [] fun y σ=>y=iv .i64 (m.check 2)∧σ=[]:=by
 refine AC.wk Tryz.func13 ?_
 obtain ⟨knd,id,key,fnd,obj,old,ctx,mt,dd,vl,px,pg,rg,cd,tx⟩:=m
 simp only at hk
 subst hk
 have hw:=which_21
 have c0:=check_Key ⟨1,id,key,fnd,obj,old,ctx,mt,dd,vl,px,pg,rg,cd,tx⟩ hf
 have hr:Mg.check 2 ⟨1,id,key,fnd,obj,old,ctx,mt,dd,vl,px,pg,rg,cd,tx⟩=keychk key:=rfl
 rw [hr]
 clear hr
 simp only at c0
 generalize (keychk key)=r0 at *
 focus (have kk1:=uN [] hw;(repeat' (first|refine G ?_|refine AW.ret ?_|(refine GC ?_ ?_<;>intro h<;>(try simp only [hsB] at h)<;>try exact xf)|(refine GL ?_ ?_<;>intro h<;>(try simp only [hsN] at h)<;>(try simp only [h])<;>(try simp only [hsB] at h)<;>try exact xf)|fail));all_goals clear kk1)
 all_goals first|exact xg|skip
 refine AW.rounds [3,4,20,21,22] (fun i:Nat=>[(3,.p 0 0),(4,iv .i64 0),(20,.b 11 0 1),(21,iv .i64 1),(22,iv .i64 (i:Nat))]) (fun _=>[.box 38 (mgC ⟨1,id,key,fnd,obj,old,ctx,mt,dd,vl,px,pg,rg,cd,tx⟩),qo29,.box 4 [bv true],qo22,qo10,qo26,qo15,qo30,.box 4 [bv false],qo23,qo11,qo10])
  (fun i=>i≤1∧(1≤i→r0=0)) (fun i=>1-i) 0 ⟨Nat.zero_le _,fun h=>absurd h (by decide)⟩ rfl rfl (fun _ _=>Nat.zero_le _) (fun _ _=>rfl) (fun _ _=>rfl) ?_
 rintro i ⟨hi,g0⟩ J hJ
 have hc:i=0∨i=1:=by omega
 rcases hc with rfl|rfl
 ·clear hw
  by_cases hz:r0=0
  ·(have kk1:=uN [2,3,1] c0;have go:=fun zT zs=>hJ 1 zT zs (by decide) ⟨by decide,fun h=>hz⟩;exact Wdg)
  ·have hv:(r0)=r0:=by rfl
   rw [hv]
   (have kk1:=uN [2,3,1] c0;exact Wd0)
 ·clear hw
  have hv:(r0)=0:=by exact g0 (by decide)
  rw [hv]
  exact Wd0
theorem check_22(m:Mg)(hf:m.fits)(hk:m.kind=2):AC Tryz.prog 13 [iv .u8 2,mgV m] [] fun y σ=>y=iv .i64 (m.check 2)∧σ=[]:=by
 refine AC.wk Tryz.func13 ?_
 obtain ⟨knd,id,key,fnd,obj,old,ctx,mt,dd,vl,px,pg,rg,cd,tx⟩:=m
 simp only at hk
 subst hk
 have hw:=which_22
 have c0:=check_flag ⟨2,id,key,fnd,obj,old,ctx,mt,dd,vl,px,pg,rg,cd,tx⟩
 have c1:=check_found_object ⟨2,id,key,fnd,obj,old,ctx,mt,dd,vl,px,pg,rg,cd,tx⟩ hf
 have hr:Mg.check 2 ⟨2,id,key,fnd,obj,old,ctx,mt,dd,vl,px,pg,rg,cd,tx⟩=if fnd=true then obj.check else 0:=rfl
 rw [hr]
 clear hr
 simp only at c1
 generalize (if fnd=true then obj.check else 0)=r1 at *
 focus (have kk1:=uN [] hw;(repeat' (first|refine G ?_|refine AW.ret ?_|(refine GC ?_ ?_<;>intro h<;>(try simp only [hsB] at h)<;>try exact xf)|(refine GL ?_ ?_<;>intro h<;>(try simp only [hsN] at h)<;>(try simp only [h])<;>(try simp only [hsB] at h)<;>try exact xf)|fail));all_goals clear kk1)
 all_goals first|exact xg|skip
 refine AW.rounds [3,4,20,21,22] (fun i:Nat=>[(3,.p 0 0),(4,iv .i64 0),(20,.b 12 0 2),(21,iv .i64 2),(22,iv .i64 (i:Nat))]) (fun _=>[.box 38 (mgC ⟨2,id,key,fnd,obj,old,ctx,mt,dd,vl,px,pg,rg,cd,tx⟩),qo29,.box 4 [bv true],qo22,qo10,qo26,qo15,qo30,.box 4 [bv false],qo23,qo11,qo17,qo4])
  (fun i=>i≤2∧(2≤i→r1=0)) (fun i=>2-i) 0 ⟨Nat.zero_le _,fun h=>absurd h (by decide)⟩ rfl rfl (fun _ _=>Nat.zero_le _) (fun _ _=>rfl) (fun _ _=>rfl) ?_
 rintro i ⟨hi,g1⟩ J hJ
 have hc:i=0∨i=1∨i=2:=by omega
 rcases hc with rfl|rfl|rfl
 ·clear hw
  (have kk1:=uN [] c0;have go:=fun zT zs=>hJ 1 zT zs (by decide) ⟨by decide,fun h=>absurd h (by decide)⟩;exact Wdg)
 ·clear hw
  by_cases hz:r1=0
  ·(have kk1:=uN [11] c1;have go:=fun zT zs=>hJ 2 zT zs (by decide) ⟨by decide,fun h=>hz⟩;exact Wdg)
  ·have hv:(r1)=r1:=by rfl
   rw [hv]
   (have kk1:=uN [11] c1;exact Wd0)
 ·clear hw
  have hv:(r1)=0:=by exact g1 (by decide)
  rw [hv]
  exact Wd0
theorem check_23(m:Mg)(hf:m.fits)(hk:m.kind=3):AC Tryz.prog 13 [iv .u8 2,mgV m] [] fun y σ=>y=iv .i64 (m.check 2)∧σ=[]:=by
 refine AC.wk Tryz.func13 ?_
 obtain ⟨knd,id,key,fnd,obj,old,ctx,mt,dd,vl,px,pg,rg,cd,tx⟩:=m
 simp only at hk
 subst hk
 have hw:=which_23
 have c0:=check_Key ⟨3,id,key,fnd,obj,old,ctx,mt,dd,vl,px,pg,rg,cd,tx⟩ hf
 have c1:=check_ctx ⟨3,id,key,fnd,obj,old,ctx,mt,dd,vl,px,pg,rg,cd,tx⟩ hf
 have c2:=check_meta ⟨3,id,key,fnd,obj,old,ctx,mt,dd,vl,px,pg,rg,cd,tx⟩ hf
 have c3:=check_flag ⟨3,id,key,fnd,obj,old,ctx,mt,dd,vl,px,pg,rg,cd,tx⟩
 have c4:=check_Value ⟨3,id,key,fnd,obj,old,ctx,mt,dd,vl,px,pg,rg,cd,tx⟩ hf
 have hr:Mg.check 2 ⟨3,id,key,fnd,obj,old,ctx,mt,dd,vl,px,pg,rg,cd,tx⟩=fst0 (keychk key) (fst0 (Vec.check ctx) (fst0 (Prs.check mt) (longchk vl 32768))):=rfl
 rw [hr]
 clear hr
 simp only at c0
 generalize (keychk key)=r0 at *
 simp only at c1
 generalize (Vec.check ctx)=r1 at *
 simp only at c2
 generalize (Prs.check mt)=r2 at *
 simp only at c4
 generalize (longchk vl 32768)=r4 at *
 focus (have kk1:=uN [] hw;(repeat' (first|refine G ?_|refine AW.ret ?_|(refine GC ?_ ?_<;>intro h<;>(try simp only [hsB] at h)<;>try exact xf)|(refine GL ?_ ?_<;>intro h<;>(try simp only [hsN] at h)<;>(try simp only [h])<;>(try simp only [hsB] at h)<;>try exact xf)|fail));all_goals clear kk1)
 all_goals first|exact xg|skip
 refine AW.rounds [3,4,20,21,22] (fun i:Nat=>[(3,.p 0 0),(4,iv .i64 0),(20,.b 16 0 5),(21,iv .i64 5),(22,iv .i64 (i:Nat))]) (fun _=>[.box 38 (mgC ⟨3,id,key,fnd,obj,old,ctx,mt,dd,vl,px,pg,rg,cd,tx⟩),qo29,.box 4 [bv true],qo22,qo10,qo26,qo15,qo30,.box 4 [bv false],qo23,qo11,qo27,qo13,qo28,.box 4 [bv false],qo24,qo0])
  (fun i=>i≤5∧(1≤i→r0=0)∧(2≤i→r1=0)∧(3≤i→r2=0)∧(5≤i→r4=0)) (fun i=>5-i) 0 ⟨Nat.zero_le _,fun h=>absurd h (by decide),fun h=>absurd h (by decide),fun h=>absurd h (by decide),fun h=>absurd h (by decide)⟩ rfl rfl (fun _ _=>Nat.zero_le _) (fun _ _=>rfl) (fun _ _=>rfl) ?_
 rintro i ⟨hi,g0,g1,g2,g4⟩ J hJ
 have hc:i=0∨i=1∨i=2∨i=3∨i=4∨i=5:=by omega
 rcases hc with rfl|rfl|rfl|rfl|rfl|rfl
 ·clear hw
  by_cases hz:r0=0
  ·(have kk1:=uN [2,3,1] c0;have go:=fun zT zs=>hJ 1 zT zs (by decide) ⟨by decide,fun h=>hz,fun h=>absurd h (by decide),fun h=>absurd h (by decide),fun h=>absurd h (by decide)⟩;exact Wdg)
  ·have hv:(fst0 r0 (fst0 r1 (fst0 r2 r4)))=r0:=by simp [fst0,hz]
   rw [hv]
   (have kk1:=uN [2,3,1] c0;exact Wd0)
 ·clear hw
  by_cases hz:r1=0
  ·(have kk1:=uN [] c1;have go:=fun zT zs=>hJ 2 zT zs (by decide) ⟨by decide,fun h=>g0 (by decide),fun h=>hz,fun h=>absurd h (by decide),fun h=>absurd h (by decide)⟩;exact Wdg)
  ·have hv:(fst0 r0 (fst0 r1 (fst0 r2 r4)))=r1:=by simp [fst0,g0 (by decide),hz]
   rw [hv]
   (have kk1:=uN [] c1;exact Wd0)
 ·clear hw
  by_cases hz:r2=0
  ·(have kk1:=uN [] c2;have go:=fun zT zs=>hJ 3 zT zs (by decide) ⟨by decide,fun h=>g0 (by decide),fun h=>g1 (by decide),fun h=>hz,fun h=>absurd h (by decide)⟩;exact Wdg)
  ·have hv:(fst0 r0 (fst0 r1 (fst0 r2 r4)))=r2:=by simp [fst0,g0 (by decide),g1 (by decide),hz]
   rw [hv]
   (have kk1:=uN [] c2;exact Wd0)
 ·clear hw
  (have kk1:=uN [] c3;have go:=fun zT zs=>hJ 4 zT zs (by decide) ⟨by decide,fun h=>g0 (by omega),fun h=>g1 (by omega),fun h=>g2 (by omega),fun h=>absurd h (by decide)⟩;exact Wdg)
 ·clear hw
  by_cases hz:r4=0
  ·(have kk1:=uN [14,15,13] c4;have go:=fun zT zs=>hJ 5 zT zs (by decide) ⟨by decide,fun h=>g0 (by decide),fun h=>g1 (by decide),fun h=>g2 (by decide),fun h=>hz⟩;exact Wdg)
  ·have hv:(fst0 r0 (fst0 r1 (fst0 r2 r4)))=r4:=by simp [fst0,g0 (by decide),g1 (by decide),g2 (by decide),hz]
   rw [hv]
   (have kk1:=uN [14,15,13] c4;exact Wd0)
 ·clear hw
  have hv:(fst0 r0 (fst0 r1 (fst0 r2 r4)))=0:=by simp [fst0,g0 (by decide),g1 (by decide),g2 (by decide),g4 (by decide)]
  rw [hv]
  exact Wd0
theorem check_24(m:Mg)(hf:m.fits)(hk:m.kind=4):AC Tryz.prog 13 [iv .u8 2,mgV m] [] fun y σ=>y=iv .i64 (m.check 2)∧σ=[]:=by
 refine AC.wk Tryz.func13 ?_
 obtain ⟨knd,id,key,fnd,obj,old,ctx,mt,dd,vl,px,pg,rg,cd,tx⟩:=m
 simp only at hk
 subst hk
 have hw:=which_24
 have c0:=check_ctx ⟨4,id,key,fnd,obj,old,ctx,mt,dd,vl,px,pg,rg,cd,tx⟩ hf
 have hr:Mg.check 2 ⟨4,id,key,fnd,obj,old,ctx,mt,dd,vl,px,pg,rg,cd,tx⟩=Vec.check ctx:=rfl
 rw [hr]
 clear hr
 simp only at c0
 generalize (Vec.check ctx)=r0 at *
 focus (have kk1:=uN [] hw;(repeat' (first|refine G ?_|refine AW.ret ?_|(refine GC ?_ ?_<;>intro h<;>(try simp only [hsB] at h)<;>try exact xf)|(refine GL ?_ ?_<;>intro h<;>(try simp only [hsN] at h)<;>(try simp only [h])<;>(try simp only [hsB] at h)<;>try exact xf)|fail));all_goals clear kk1)
 all_goals first|exact xg|skip
 refine AW.rounds [3,4,20,21,22] (fun i:Nat=>[(3,.p 0 0),(4,iv .i64 0),(20,.b 11 0 1),(21,iv .i64 1),(22,iv .i64 (i:Nat))]) (fun _=>[.box 38 (mgC ⟨4,id,key,fnd,obj,old,ctx,mt,dd,vl,px,pg,rg,cd,tx⟩),qo29,.box 4 [bv true],qo22,qo10,qo26,qo15,qo30,.box 4 [bv false],qo23,qo11,qo19])
  (fun i=>i≤1∧(1≤i→r0=0)) (fun i=>1-i) 0 ⟨Nat.zero_le _,fun h=>absurd h (by decide)⟩ rfl rfl (fun _ _=>Nat.zero_le _) (fun _ _=>rfl) (fun _ _=>rfl) ?_
 rintro i ⟨hi,g0⟩ J hJ
 have hc:i=0∨i=1:=by omega
 rcases hc with rfl|rfl
 ·clear hw
  by_cases hz:r0=0
  ·(have kk1:=uN [] c0;have go:=fun zT zs=>hJ 1 zT zs (by decide) ⟨by decide,fun h=>hz⟩;exact Wdg)
  ·have hv:(r0)=r0:=by rfl
   rw [hv]
   (have kk1:=uN [] c0;exact Wd0)
 ·clear hw
  have hv:(r0)=0:=by exact g0 (by decide)
  rw [hv]
  exact Wd0
theorem check_25(m:Mg)(hf:m.fits)(hk:m.kind=5):AC Tryz.prog 13 [iv .u8 2,mgV m] [] fun y σ=>y=iv .i64 (m.check 2)∧σ=[]:=by
 refine AC.wk Tryz.func13 ?_
 obtain ⟨knd,id,key,fnd,obj,old,ctx,mt,dd,vl,px,pg,rg,cd,tx⟩:=m
 simp only at hk
 subst hk
 have hw:=which_25
 have c0:=check_Prefix ⟨5,id,key,fnd,obj,old,ctx,mt,dd,vl,px,pg,rg,cd,tx⟩ hf
 have hr:Mg.check 2 ⟨5,id,key,fnd,obj,old,ctx,mt,dd,vl,px,pg,rg,cd,tx⟩=longchk px 31:=rfl
 rw [hr]
 clear hr
 simp only at c0
 generalize (longchk px 31)=r0 at *
 focus (have kk1:=uN [] hw;(repeat' (first|refine G ?_|refine AW.ret ?_|(refine GC ?_ ?_<;>intro h<;>(try simp only [hsB] at h)<;>try exact xf)|(refine GL ?_ ?_<;>intro h<;>(try simp only [hsN] at h)<;>(try simp only [h])<;>(try simp only [hsB] at h)<;>try exact xf)|fail));all_goals clear kk1)
 all_goals first|exact xg|skip
 refine AW.rounds [3,4,20,21,22] (fun i:Nat=>[(3,.p 0 0),(4,iv .i64 0),(20,.b 14 0 1),(21,iv .i64 1),(22,iv .i64 (i:Nat))]) (fun _=>[.box 38 (mgC ⟨5,id,key,fnd,obj,old,ctx,mt,dd,vl,px,pg,rg,cd,tx⟩),qo29,.box 4 [bv true],qo22,qo10,qo26,qo15,qo30,.box 4 [bv false],qo23,qo11,qo31,.box 4 [bv false],qo25,qo6])
  (fun i=>i≤1∧(1≤i→r0=0)) (fun i=>1-i) 0 ⟨Nat.zero_le _,fun h=>absurd h (by decide)⟩ rfl rfl (fun _ _=>Nat.zero_le _) (fun _ _=>rfl) (fun _ _=>rfl) ?_
 rintro i ⟨hi,g0⟩ J hJ
 have hc:i=0∨i=1:=by omega
 rcases hc with rfl|rfl
 ·clear hw
  by_cases hz:r0=0
  ·(have kk1:=uN [12,13,11] c0;have go:=fun zT zs=>hJ 1 zT zs (by decide) ⟨by decide,fun h=>hz⟩;exact Wdg)
  ·have hv:(r0)=r0:=by rfl
   rw [hv]
   (have kk1:=uN [12,13,11] c0;exact Wd0)
 ·clear hw
  have hv:(r0)=0:=by exact g0 (by decide)
  rw [hv]
  exact Wd0
theorem check_26(m:Mg)(hf:m.fits)(hk:m.kind=6):AC Tryz.prog 13 [iv .u8 2,mgV m] [] fun y σ=>y=iv .i64 (m.check 2)∧σ=[]:=by
 refine AC.wk Tryz.func13 ?_
 obtain ⟨knd,id,key,fnd,obj,old,ctx,mt,dd,vl,px,pg,rg,cd,tx⟩:=m
 simp only at hk
 subst hk
 have hw:=which_26
 have c0:=check_page ⟨6,id,key,fnd,obj,old,ctx,mt,dd,vl,px,pg,rg,cd,tx⟩ hf
 have hr:Mg.check 2 ⟨6,id,key,fnd,obj,old,ctx,mt,dd,vl,px,pg,rg,cd,tx⟩=pg.check:=rfl
 rw [hr]
 clear hr
 simp only at c0
 generalize (pg.check)=r0 at *
 focus (have kk1:=uN [] hw;(repeat' (first|refine G ?_|refine AW.ret ?_|(refine GC ?_ ?_<;>intro h<;>(try simp only [hsB] at h)<;>try exact xf)|(refine GL ?_ ?_<;>intro h<;>(try simp only [hsN] at h)<;>(try simp only [h])<;>(try simp only [hsB] at h)<;>try exact xf)|fail));all_goals clear kk1)
 all_goals first|exact xg|skip
 refine AW.rounds [3,4,20,21,22] (fun i:Nat=>[(3,.p 0 0),(4,iv .i64 0),(20,.b 11 0 1),(21,iv .i64 1),(22,iv .i64 (i:Nat))]) (fun _=>[.box 38 (mgC ⟨6,id,key,fnd,obj,old,ctx,mt,dd,vl,px,pg,rg,cd,tx⟩),qo29,.box 4 [bv true],qo22,qo10,qo26,qo15,qo30,.box 4 [bv false],qo23,qo11,qo20])
  (fun i=>i≤1∧(1≤i→r0=0)) (fun i=>1-i) 0 ⟨Nat.zero_le _,fun h=>absurd h (by decide)⟩ rfl rfl (fun _ _=>Nat.zero_le _) (fun _ _=>rfl) (fun _ _=>rfl) ?_
 rintro i ⟨hi,g0⟩ J hJ
 have hc:i=0∨i=1:=by omega
 rcases hc with rfl|rfl
 ·clear hw
  by_cases hz:r0=0
  ·(have kk1:=uN [] c0;have go:=fun zT zs=>hJ 1 zT zs (by decide) ⟨by decide,fun h=>hz⟩;exact Wdg)
  ·have hv:(r0)=r0:=by rfl
   rw [hv]
   (have kk1:=uN [] c0;exact Wd0)
 ·clear hw
  have hv:(r0)=0:=by exact g0 (by decide)
  rw [hv]
  exact Wd0
theorem check_27(m:Mg)(hf:m.fits)(hk:m.kind=7):AC Tryz.prog 13 [iv .u8 2,mgV m] [] fun y σ=>y=iv .i64 (m.check 2)∧σ=[]:=by
 refine AC.wk Tryz.func13 ?_
 obtain ⟨knd,id,key,fnd,obj,old,ctx,mt,dd,vl,px,pg,rg,cd,tx⟩:=m
 simp only at hk
 subst hk
 have hw:=which_27
 have c0:=check_ring ⟨7,id,key,fnd,obj,old,ctx,mt,dd,vl,px,pg,rg,cd,tx⟩ hf
 have hr:Mg.check 2 ⟨7,id,key,fnd,obj,old,ctx,mt,dd,vl,px,pg,rg,cd,tx⟩=Ring.check rg:=rfl
 rw [hr]
 clear hr
 simp only at c0
 generalize (Ring.check rg)=r0 at *
 focus (have kk1:=uN [] hw;(repeat' (first|refine G ?_|refine AW.ret ?_|(refine GC ?_ ?_<;>intro h<;>(try simp only [hsB] at h)<;>try exact xf)|(refine GL ?_ ?_<;>intro h<;>(try simp only [hsN] at h)<;>(try simp only [h])<;>(try simp only [hsB] at h)<;>try exact xf)|fail));all_goals clear kk1)
 all_goals first|exact xg|skip
 refine AW.rounds [3,4,20,21,22] (fun i:Nat=>[(3,.p 0 0),(4,iv .i64 0),(20,.b 11 0 1),(21,iv .i64 1),(22,iv .i64 (i:Nat))]) (fun _=>[.box 38 (mgC ⟨7,id,key,fnd,obj,old,ctx,mt,dd,vl,px,pg,rg,cd,tx⟩),qo29,.box 4 [bv true],qo22,qo10,qo26,qo15,qo30,.box 4 [bv false],qo23,qo11,qo21])
  (fun i=>i≤1∧(1≤i→r0=0)) (fun i=>1-i) 0 ⟨Nat.zero_le _,fun h=>absurd h (by decide)⟩ rfl rfl (fun _ _=>Nat.zero_le _) (fun _ _=>rfl) (fun _ _=>rfl) ?_
 rintro i ⟨hi,g0⟩ J hJ
 have hc:i=0∨i=1:=by omega
 rcases hc with rfl|rfl
 ·clear hw
  by_cases hz:r0=0
  ·(have kk1:=uN [] c0;have go:=fun zT zs=>hJ 1 zT zs (by decide) ⟨by decide,fun h=>hz⟩;exact Wdg)
  ·have hv:(r0)=r0:=by rfl
   rw [hv]
   (have kk1:=uN [] c0;exact Wd0)
 ·clear hw
  have hv:(r0)=0:=by exact g0 (by decide)
  rw [hv]
  exact Wd0
theorem check_28(m:Mg)(hf:m.fits)(hk:m.kind=8):AC Tryz.prog 13 [iv .u8 2,mgV m] [] fun y σ=>y=iv .i64 (m.check 2)∧σ=[]:=by
 refine AC.wk Tryz.func13 ?_
 obtain ⟨knd,id,key,fnd,obj,old,ctx,mt,dd,vl,px,pg,rg,cd,tx⟩:=m
 simp only at hk
 subst hk
 have hw:=which_28
 have c0:=check_code ⟨8,id,key,fnd,obj,old,ctx,mt,dd,vl,px,pg,rg,cd,tx⟩ hf
 have c1:=check_Text ⟨8,id,key,fnd,obj,old,ctx,mt,dd,vl,px,pg,rg,cd,tx⟩ hf
 have hr:Mg.check 2 ⟨8,id,key,fnd,obj,old,ctx,mt,dd,vl,px,pg,rg,cd,tx⟩=fst0 (codechk cd) (longchk tx 64):=rfl
 rw [hr]
 clear hr
 simp only at c0
 generalize (codechk cd)=r0 at *
 simp only at c1
 generalize (longchk tx 64)=r1 at *
 focus (have kk1:=uN [] hw;(repeat' (first|refine G ?_|refine AW.ret ?_|(refine GC ?_ ?_<;>intro h<;>(try simp only [hsB] at h)<;>try exact xf)|(refine GL ?_ ?_<;>intro h<;>(try simp only [hsN] at h)<;>(try simp only [h])<;>(try simp only [hsB] at h)<;>try exact xf)|fail));all_goals clear kk1)
 all_goals first|exact xg|skip
 refine AW.rounds [3,4,20,21,22] (fun i:Nat=>[(3,.p 0 0),(4,iv .i64 0),(20,.b 11 0 2),(21,iv .i64 2),(22,iv .i64 (i:Nat))]) (fun _=>[.box 38 (mgC ⟨8,id,key,fnd,obj,old,ctx,mt,dd,vl,px,pg,rg,cd,tx⟩),qo29,.box 4 [bv true],qo22,qo10,qo26,qo15,qo30,.box 4 [bv false],qo23,qo11,qo2])
  (fun i=>i≤2∧(1≤i→r0=0)∧(2≤i→r1=0)) (fun i=>2-i) 0 ⟨Nat.zero_le _,fun h=>absurd h (by decide),fun h=>absurd h (by decide)⟩ rfl rfl (fun _ _=>Nat.zero_le _) (fun _ _=>rfl) (fun _ _=>rfl) ?_
 rintro i ⟨hi,g0,g1⟩ J hJ
 have hc:i=0∨i=1∨i=2:=by omega
 rcases hc with rfl|rfl|rfl
 ·clear hw
  by_cases hz:r0=0
  ·(have kk1:=uN [] c0;have go:=fun zT zs=>hJ 1 zT zs (by decide) ⟨by decide,fun h=>hz,fun h=>absurd h (by decide)⟩;exact Wdg)
  ·have hv:(fst0 r0 r1)=r0:=by simp [fst0,hz]
   rw [hv]
   (have kk1:=uN [] c0;exact Wd0)
 ·clear hw
  by_cases hz:r1=0
  ·(have kk1:=uN [8,9,7] c1;have go:=fun zT zs=>hJ 2 zT zs (by decide) ⟨by decide,fun h=>g0 (by decide),fun h=>hz⟩;exact Wdg)
  ·have hv:(fst0 r0 r1)=r1:=by simp [fst0,g0 (by decide),hz]
   rw [hv]
   (have kk1:=uN [8,9,7] c1;exact Wd0)
 ·clear hw
  have hv:(fst0 r0 r1)=0:=by simp [fst0,g0 (by decide),g1 (by decide)]
  rw [hv]
  exact Wd0
theorem check_29(m:Mg)(hf:m.fits)(hk:m.kind=9):AC Tryz.prog 13 [iv .u8 2,mgV m] [] fun y σ=>y=iv .i64 (m.check 2)∧σ=[]:=by
 refine AC.wk Tryz.func13 ?_
 obtain ⟨knd,id,key,fnd,obj,old,ctx,mt,dd,vl,px,pg,rg,cd,tx⟩:=m
 simp only at hk
 subst hk
 have hw:=which_29
 have c0:=check_object ⟨9,id,key,fnd,obj,old,ctx,mt,dd,vl,px,pg,rg,cd,tx⟩ hf
 have hr:Mg.check 2 ⟨9,id,key,fnd,obj,old,ctx,mt,dd,vl,px,pg,rg,cd,tx⟩=obj.check:=rfl
 rw [hr]
 clear hr
 simp only at c0
 generalize (obj.check)=r0 at *
 focus (have kk1:=uN [] hw;(repeat' (first|refine G ?_|refine AW.ret ?_|(refine GC ?_ ?_<;>intro h<;>(try simp only [hsB] at h)<;>try exact xf)|(refine GL ?_ ?_<;>intro h<;>(try simp only [hsN] at h)<;>(try simp only [h])<;>(try simp only [hsB] at h)<;>try exact xf)|fail));all_goals clear kk1)
 all_goals first|exact xg|skip
 refine AW.rounds [3,4,20,21,22] (fun i:Nat=>[(3,.p 0 0),(4,iv .i64 0),(20,.b 11 0 1),(21,iv .i64 1),(22,iv .i64 (i:Nat))]) (fun _=>[.box 38 (mgC ⟨9,id,key,fnd,obj,old,ctx,mt,dd,vl,px,pg,rg,cd,tx⟩),qo29,.box 4 [bv true],qo22,qo10,qo26,qo15,qo30,.box 4 [bv false],qo23,qo11,qo17])
  (fun i=>i≤1∧(1≤i→r0=0)) (fun i=>1-i) 0 ⟨Nat.zero_le _,fun h=>absurd h (by decide)⟩ rfl rfl (fun _ _=>Nat.zero_le _) (fun _ _=>rfl) (fun _ _=>rfl) ?_
 rintro i ⟨hi,g0⟩ J hJ
 have hc:i=0∨i=1:=by omega
 rcases hc with rfl|rfl
 ·clear hw
  by_cases hz:r0=0
  ·(have kk1:=uN [] c0;have go:=fun zT zs=>hJ 1 zT zs (by decide) ⟨by decide,fun h=>hz⟩;exact Wdg)
  ·have hv:(r0)=r0:=by rfl
   rw [hv]
   (have kk1:=uN [] c0;exact Wd0)
 ·clear hw
  have hv:(r0)=0:=by exact g0 (by decide)
  rw [hv]
  exact Wd0
theorem Pe.obj_way{q:Pe}{o:Oj}(hc:o.check=0)(hok:q.Ok)(hl:q.m≤140737488355328∨q.b.length+(eobj o).length+120≤140737488355328) :
  ∃ p1 p2:Pe,q.blob 128 o.key=p1∧p1.count 16 (o.sibs.length:Nat)=p2∧q.obj o=p2.sibs o.sibs∧p1.Ok∧p2.Ok∧o.key.length≤128∧o.sibs.length≤16∧p2.m=q.m∧
   (q.m≤140737488355328∨q.b.length+10+o.key.length≤140737488355328)∧(p1.m≤140737488355328∨p1.b.length+10≤140737488355328)∧(p2.m≤140737488355328∨p2.b.length+(o.sibs.map esib).flatten.length+80≤140737488355328):=by
 obtain ⟨k1,k2,k3,k4⟩:=outside_zero.1 (Oj.check_parts hc).1
 have hel:(eobj o).length=((vput o.key.length).length+o.key.length)+((vput o.sibs.length).length+(o.sibs.map esib).flatten.length):=by
  unfold eobj eblob;simp only [List.length_append]
 have hobj:q.obj o=((q.blob 128 o.key).count 16 (o.sibs.length:Nat)).sibs o.sibs:=by unfold Pe.obj;rw [if_neg (by simpa using hc)]
 have o1:=(pens_blob 128).keep (p:=q) (x:=o.key) hok (by unfold eblob;simp only [List.length_append];omega)
 have m1:=(pens_blob 128).m q o.key
 have l1:=(pens_blob 128).len q o.key
 have he:(eblob o.key).length=(vput o.key.length).length+o.key.length:=by unfold eblob;rw [List.length_append]
 refine ⟨q.blob 128 o.key,(q.blob 128 o.key).count 16 (o.sibs.length:Nat),rfl,rfl,hobj,?_⟩
 try simp only at o1 m1 l1
 generalize q.blob 128 o.key=p1 at *
 have o2:=(pens_count 16).keep (p:=p1) (x:=o.sibs.length) o1 (by omega)
 have m2:=(pens_count 16).m p1 o.sibs.length
 have l2:=(pens_count 16).len p1 o.sibs.length
 try simp only at o2 m2 l2
 generalize p1.count 16 (o.sibs.length:Nat)=p2 at *
 exact ⟨o1,o2,k1,k3,by omega,by omega,by omega,by omega⟩
section
variable (b : List UInt8) (m e : Int)
theorem object_Put(ok:Pe.Ok ⟨b,m,e⟩)(o:Oj)(ho:o.fits)(hl:m≤140737488355328∨b.length+(eobj o).length+120≤140737488355328) :
  AC Tryz.prog 255 [.p 0 0,ojV o] (Pe.obs ⟨b,m,e⟩) fun x σ=>x=.t []∧σ=Pe.obs (Pe.obj ⟨b,m,e⟩ o):=by
 refine AC.wk Tryz.func255 ?_
 by_cases hc:o.check=0
 case neg=>
  have hv:Pe.obj ⟨b,m,e⟩ o=Pe.fail ⟨b,m,e⟩ o.check:=by unfold Pe.obj;rw [if_pos hc]
  rw [hv]
  (have kk1:=uN [] (object_Check o ho);have kua1:=fun za=>uN [0,1] (pen_Fail b m e za);exact Wd2)
 obtain ⟨p1,p2,g1,g2,g3,o1,o2,k1,k3,m2,b0,b1,b2⟩:=Pe.obj_way hc ok hl
 have g2':Pe.count ⟨p1.b,p1.m,p1.e⟩ 16 (o.sibs.length:Nat)=p2:=g2
 have g3':Pe.sibs ⟨p2.b,p2.m,p2.e⟩ o.sibs=Pe.obj ⟨b,m,e⟩ o:=g3.symm
 (have kxs:=And.intro hc (And.intro g1 (And.intro g2' g3'));have kk1:=uN [] (object_Check o ho);have kk2:=uN [0,1] (blob_Put1 b o.key m e 128 ok ho.1 b0);have kk3:=uN [0,1] (blob_PutCount p1.b p1.m p1.e 16 o1 (o.sibs.length:Nat) (by omega) b1);have kk4:=uN [0,1] (sibling_Put p2.b p2.m p2.e o2 o.sibs ho.2.2 (by omega) b2);exact Wd2)
end
theorem object_Encode(o:Oj)(ho:o.fits):AC Tryz.prog 196 [ojV o] [] fun x σ=>x=.t [sv (bs (obje o).1),iv .i64 (obje o).2]∧σ=[]:=by
 have hq:=pens_obj.keep (x:=o) pe0_ok (.inl (by decide))
 refine AC.wk Tryz.func196 ?_
 unfold obje wre
 generalize hp:Pe.obj ⟨[],65536,0⟩ o=q at *
 (have kxs:=hp;have kk1:=uN [] (pen_New 65536 (by decide));have kk2:=uN [1,2] (object_Put [] 65536 0 pe0_ok o ho (.inl (by decide)));have kk3:=uN [1,2] (pen_End q.b q.m q.e hq);exact Wd0)
end Go.AW
