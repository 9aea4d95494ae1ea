/-
  plain messages, the document's; what is known of plain ones.
-/
import Derived.Test.YtdnfcckkdnkaiaaGreatU50
import Derived.Test.YtdnfcckkdnkaiaaGreatU51
set_option linter.unusedVariables false
set_option linter.unusedSimpArgs false
set_option maxHeartbeats 4000000
set_option maxRecDepth 10000
namespace Go.AW
open Go Go.Proofs
attribute [local irreducible] thenQ blockQ RetQ AL AW AC AOp
theorem rplain_none(v:Nat)(m:Mg)(hv:v<256)(hk:m.kind<256)(h:has v m.kind=false):AC Tryz.prog 24 [iv .u8 (v:Nat),mgV m] [] fun x σ=>x=mgV (m.plain v)∧σ=[]:=by
 refine AC.wk Tryz.func24 ?_
 have hh:=ref23_Has v m.kind hv hk
 rw [h] at hh
 rw [show m.plain v=mg0 by unfold Mg.plain;rw [if_pos h]]
 (have kk1:=uN [] hh;exact Wd0)
theorem rplain_11(m:Mg)(hk:m.kind=1):AC Tryz.prog 24 [iv .u8 1,mgV m] [] fun y σ=>y=mgV (m.pl 1)∧σ=[]:=by
 refine AC.wk Tryz.func24 ?_
 obtain ⟨knd,id,key,fnd,obj,old,ctx,mt,dd,vl,px,pg,rg,cd,tx⟩:=m
 simp only at hk
 subst hk
 have hh:=ref23_Has 1 1 (by decide) (by decide)
 rw [show has 1 1=true from rfl] at hh
 focus (have kk1:=uN [] hh;(repeat' (first|refine G ?_|refine AW.ret ?_|(refine GC ?_ ?_<;>intro h<;>(try simp only [hsB] at h)<;>try exact xf)|(refine GL ?_ ?_<;>intro h<;>(try simp only [hsN] at h)<;>(try simp only [h])<;>(try simp only [hsB] at h)<;>try exact xf)|fail));all_goals clear kk1)
 all_goals first|exact RetQ.r (xs:=[.a [.d (.s (.int .u8 1)),.d (.s (.int .u64 (id:Nat))),.d (.s (.string ⟨(key).toArray⟩)),.d Df,.d De,.d Dn,.d De,.d Dn,.d Dn,.d Dn,.d Df,.d De,.d De,.d De,.d Df,.d Dn,.d Dn,.d Dn,.d D0,.d De]]) 0 rfl (Nat.le_of_ble_eq_true rfl) rfl rfl ⟨rfl,rfl⟩|exact RetQ.fr 0|exact RetQ.fn 0|exact xg
theorem rplain_12(m:Mg)(hk:m.kind=2):AC Tryz.prog 24 [iv .u8 1,mgV m] [] fun y σ=>y=mgV (m.pl 1)∧σ=[]:=by
 refine AC.wk Tryz.func24 ?_
 obtain ⟨knd,id,key,fnd,obj,old,ctx,mt,dd,vl,px,pg,rg,cd,tx⟩:=m
 simp only at hk
 subst hk
 have hh:=ref23_Has 1 2 (by decide) (by decide)
 rw [show has 1 2=true from rfl] at hh
 cases fnd with
 | true=>
  focus (have kk1:=uN [] hh;(repeat' (first|refine G ?_|refine AW.ret ?_|(refine GC ?_ ?_<;>intro h<;>(try simp only [hsB] at h)<;>try exact xf)|(refine GL ?_ ?_<;>intro h<;>(try simp only [hsN] at h)<;>(try simp only [h])<;>(try simp only [hsB] at h)<;>try exact xf)|fail));all_goals clear kk1)
  all_goals first|exact RetQ.r (xs:=[.a [.d (.s (.int .u8 2)),.d (.s (.int .u64 (id:Nat))),.d De,.d (.s (.bool true)),.d De,.d Dn,.d (.s (.string ⟨(old.key).toArray⟩)),.d (.l old.sibs.length (ossD old.sibs)),.d Dn,.d Dn,.d Df,.d De,.d De,.d De,.d Df,.d Dn,.d Dn,.d Dn,.d D0,.d De]]) 0 rfl (Nat.le_of_ble_eq_true rfl) rfl rfl ⟨rfl,rfl⟩|exact RetQ.fr 0|exact RetQ.fn 0|exact xg
 | false=>
  focus (have kk1:=uN [] hh;(repeat' (first|refine G ?_|refine AW.ret ?_|(refine GC ?_ ?_<;>intro h<;>(try simp only [hsB] at h)<;>try exact xf)|(refine GL ?_ ?_<;>intro h<;>(try simp only [hsN] at h)<;>(try simp only [h])<;>(try simp only [hsB] at h)<;>try exact xf)|fail));all_goals clear kk1)
  all_goals first|exact RetQ.r (xs:=[.a [.d (.s (.int .u8 2)),.d (.s (.int .u64 (id:Nat))),.d De,.d Df,.d De,.d Dn,.d De,.d Dn,.d Dn,.d Dn,.d Df,.d De,.d De,.d De,.d Df,.d Dn,.d Dn,.d Dn,.d D0,.d De]]) 0 rfl (Nat.le_of_ble_eq_true rfl) rfl rfl ⟨rfl,rfl⟩|exact RetQ.fr 0|exact RetQ.fn 0|exact xg
theorem rplain_18(m:Mg)(hk:m.kind=8):AC Tryz.prog 24 [iv .u8 1,mgV m] [] fun y σ=>y=mgV (m.pl 1)∧σ=[]:=by
 refine AC.wk Tryz.func24 ?_
 obtain ⟨knd,id,key,fnd,obj,old,ctx,mt,dd,vl,px,pg,rg,cd,tx⟩:=m
 simp only at hk
 subst hk
 have hh:=ref23_Has 1 8 (by decide) (by decide)
 rw [show has 1 8=true from rfl] at hh
 focus (have kk1:=uN [] hh;(repeat' (first|refine G ?_|refine AW.ret ?_|(refine GC ?_ ?_<;>intro h<;>(try simp only [hsB] at h)<;>try exact xf)|(refine GL ?_ ?_<;>intro h<;>(try simp only [hsN] at h)<;>(try simp only [h])<;>(try simp only [hsB] at h)<;>try exact xf)|fail));all_goals clear kk1)
 all_goals first|exact RetQ.r (xs:=[.a [.d (.s (.int .u8 8)),.d (.s (.int .u64 (id:Nat))),.d De,.d Df,.d De,.d Dn,.d De,.d Dn,.d Dn,.d Dn,.d Df,.d De,.d De,.d De,.d Df,.d Dn,.d Dn,.d Dn,.d (.s (.int .i64 cd)),.d (.s (.string ⟨(tx).toArray⟩))]]) 0 rfl (Nat.le_of_ble_eq_true rfl) rfl rfl ⟨rfl,rfl⟩|exact RetQ.fr 0|exact RetQ.fn 0|exact xg
theorem rplain_21(m:Mg)(hk:m.kind=1):AC Tryz.prog 24 [iv .u8 2,mgV m] [] fun y σ=>y=mgV (m.pl 2)∧σ=[]:=by
 refine AC.wk Tryz.func24 ?_
 obtain ⟨knd,id,key,fnd,obj,old,ctx,mt,dd,vl,px,pg,rg,cd,tx⟩:=m
 simp only at hk
 subst hk
 have hh:=ref23_Has 2 1 (by decide) (by decide)
 rw [show has 2 1=true from rfl] at hh
 focus (have kk1:=uN [] hh;(repeat' (first|refine G ?_|refine AW.ret ?_|(refine GC ?_ ?_<;>intro h<;>(try simp only [hsB] at h)<;>try exact xf)|(refine GL ?_ ?_<;>intro h<;>(try simp only [hsN] at h)<;>(try simp only [h])<;>(try simp only [hsB] at h)<;>try exact xf)|fail));all_goals clear kk1)
 all_goals first|exact RetQ.r (xs:=[.a [.d (.s (.int .u8 1)),.d (.s (.int .u64 (id:Nat))),.d (.s (.string ⟨(key).toArray⟩)),.d Df,.d De,.d Dn,.d De,.d Dn,.d Dn,.d Dn,.d Df,.d De,.d De,.d De,.d Df,.d Dn,.d Dn,.d Dn,.d D0,.d De]]) 0 rfl (Nat.le_of_ble_eq_true rfl) rfl rfl ⟨rfl,rfl⟩|exact RetQ.fr 0|exact RetQ.fn 0|exact xg
theorem rplain_22(m:Mg)(hk:m.kind=2):AC Tryz.prog 24 [iv .u8 2,mgV m] [] fun y σ=>y=mgV (m.pl 2)∧σ=[]:=by
 refine AC.wk Tryz.func24 ?_
 obtain ⟨knd,id,key,fnd,obj,old,ctx,mt,dd,vl,px,pg,rg,cd,tx⟩:=m
 simp only at hk
 subst hk
 have hh:=ref23_Has 2 2 (by decide) (by decide)
 rw [show has 2 2=true from rfl] at hh
 cases fnd with
 | true=>
  focus (have kk1:=uN [] hh;(repeat' (first|refine G ?_|refine AW.ret ?_|(refine GC ?_ ?_<;>intro h<;>(try simp only [hsB] at h)<;>try exact xf)|(refine GL ?_ ?_<;>intro h<;>(try simp only [hsN] at h)<;>(try simp only [h])<;>(try simp only [hsB] at h)<;>try exact xf)|fail));all_goals clear kk1)
  all_goals first|exact RetQ.r (xs:=[.a [.d (.s (.int .u8 2)),.d (.s (.int .u64 (id:Nat))),.d De,.d (.s (.bool true)),.d (.s (.string ⟨(obj.key).toArray⟩)),.d (.l obj.sibs.length (sbsD obj.sibs)),.d De,.d Dn,.d Dn,.d Dn,.d Df,.d De,.d De,.d De,.d Df,.d Dn,.d Dn,.d Dn,.d D0,.d De]]) 0 rfl (Nat.le_of_ble_eq_true rfl) rfl rfl ⟨rfl,rfl⟩|exact RetQ.fr 0|exact RetQ.fn 0|exact xg
 | false=>
  focus (have kk1:=uN [] hh;(repeat' (first|refine G ?_|refine AW.ret ?_|(refine GC ?_ ?_<;>intro h<;>(try simp only [hsB] at h)<;>try exact xf)|(refine GL ?_ ?_<;>intro h<;>(try simp only [hsN] at h)<;>(try simp only [h])<;>(try simp only [hsB] at h)<;>try exact xf)|fail));all_goals clear kk1)
  all_goals first|exact RetQ.r (xs:=[.a [.d (.s (.int .u8 2)),.d (.s (.int .u64 (id:Nat))),.d De,.d Df,.d De,.d Dn,.d De,.d Dn,.d Dn,.d Dn,.d Df,.d De,.d De,.d De,.d Df,.d Dn,.d Dn,.d Dn,.d D0,.d De]]) 0 rfl (Nat.le_of_ble_eq_true rfl) rfl rfl ⟨rfl,rfl⟩|exact RetQ.fr 0|exact RetQ.fn 0|exact xg
theorem rplain_23(m:Mg)(hk:m.kind=3):AC Tryz.prog 24 [iv .u8 2,mgV m] [] fun y σ=>y=mgV (m.pl 2)∧σ=[]:=by
 refine AC.wk Tryz.func24 ?_
 obtain ⟨knd,id,key,fnd,obj,old,ctx,mt,dd,vl,px,pg,rg,cd,tx⟩:=m
 simp only at hk
 subst hk
 have hh:=ref23_Has 2 3 (by decide) (by decide)
 rw [show has 2 3=true from rfl] at hh
 focus (have kk1:=uN [] hh;(repeat' (first|refine G ?_|refine AW.ret ?_|(refine GC ?_ ?_<;>intro h<;>(try simp only [hsB] at h)<;>try exact xf)|(refine GL ?_ ?_<;>intro h<;>(try simp only [hsN] at h)<;>(try simp only [h])<;>(try simp only [hsB] at h)<;>try exact xf)|fail));all_goals clear kk1)
 all_goals first|exact RetQ.r (xs:=[.a [.d (.s (.int .u8 3)),.d (.s (.int .u64 (id:Nat))),.d (.s (.string ⟨(key).toArray⟩)),.d Df,.d De,.d Dn,.d De,.d Dn,.d (.l ctx.length (vecD ctx)),.d (.l mt.length (prsD mt)),.d (.s (.bool dd)),.d (.s (.string ⟨(vl).toArray⟩)),.d De,.d De,.d Df,.d Dn,.d Dn,.d Dn,.d D0,.d De]]) 0 rfl (Nat.le_of_ble_eq_true rfl) rfl rfl ⟨rfl,rfl⟩|exact RetQ.fr 0|exact RetQ.fn 0|exact xg
theorem rplain_24(m:Mg)(hk:m.kind=4):AC Tryz.prog 24 [iv .u8 2,mgV m] [] fun y σ=>y=mgV (m.pl 2)∧σ=[]:=by
 refine AC.wk Tryz.func24 ?_
 obtain ⟨knd,id,key,fnd,obj,old,ctx,mt,dd,vl,px,pg,rg,cd,tx⟩:=m
 simp only at hk
 subst hk
 have hh:=ref23_Has 2 4 (by decide) (by decide)
 rw [show has 2 4=true from rfl] at hh
 focus (have kk1:=uN [] hh;(repeat' (first|refine G ?_|refine AW.ret ?_|(refine GC ?_ ?_<;>intro h<;>(try simp only [hsB] at h)<;>try exact xf)|(refine GL ?_ ?_<;>intro h<;>(try simp only [hsN] at h)<;>(try simp only [h])<;>(try simp only [hsB] at h)<;>try exact xf)|fail));all_goals clear kk1)
 all_goals first|exact RetQ.r (xs:=[.a [.d (.s (.int .u8 4)),.d (.s (.int .u64 (id:Nat))),.d De,.d Df,.d De,.d Dn,.d De,.d Dn,.d (.l ctx.length (vecD ctx)),.d Dn,.d Df,.d De,.d De,.d De,.d Df,.d Dn,.d Dn,.d Dn,.d D0,.d De]]) 0 rfl (Nat.le_of_ble_eq_true rfl) rfl rfl ⟨rfl,rfl⟩|exact RetQ.fr 0|exact RetQ.fn 0|exact xg
theorem rplain_25(m:Mg)(hk:m.kind=5):AC Tryz.prog 24 [iv .u8 2,mgV m] [] fun y σ=>y=mgV (m.pl 2)∧σ=[]:=by
 refine AC.wk Tryz.func24 ?_
 obtain ⟨knd,id,key,fnd,obj,old,ctx,mt,dd,vl,px,pg,rg,cd,tx⟩:=m
 simp only at hk
 subst hk
 have hh:=ref23_Has 2 5 (by decide) (by decide)
 rw [show has 2 5=true from rfl] at hh
 focus (have kk1:=uN [] hh;(repeat' (first|refine G ?_|refine AW.ret ?_|(refine GC ?_ ?_<;>intro h<;>(try simp only [hsB] at h)<;>try exact xf)|(refine GL ?_ ?_<;>intro h<;>(try simp only [hsN] at h)<;>(try simp only [h])<;>(try simp only [hsB] at h)<;>try exact xf)|fail));all_goals clear kk1)
 all_goals first|exact RetQ.r (xs:=[.a [.d (.s (.int .u8 5)),.d (.s (.int .u64 (id:Nat))),.d De,.d Df,.d De,.d Dn,.d De,.d Dn,.d Dn,.d Dn,.d Df,.d De,.d (.s (.string ⟨(px).toArray⟩)),.d De,.d Df,.d Dn,.d Dn,.d Dn,.d D0,.d De]]) 0 rfl (Nat.le_of_ble_eq_true rfl) rfl rfl ⟨rfl,rfl⟩|exact RetQ.fr 0|exact RetQ.fn 0|exact xg
theorem rplain_26(m:Mg)(hk:m.kind=6):AC Tryz.prog 24 [iv .u8 2,mgV m] [] fun y σ=>y=mgV (m.pl 2)∧σ=[]:=by
 refine AC.wk Tryz.func24 ?_
 obtain ⟨knd,id,key,fnd,obj,old,ctx,mt,dd,vl,px,pg,rg,cd,tx⟩:=m
 simp only at hk
 subst hk
 have hh:=ref23_Has 2 6 (by decide) (by decide)
 rw [show has 2 6=true from rfl] at hh
 focus (have kk1:=uN [] hh;(repeat' (first|refine G ?_|refine AW.ret ?_|(refine GC ?_ ?_<;>intro h<;>(try simp only [hsB] at h)<;>try exact xf)|(refine GL ?_ ?_<;>intro h<;>(try simp only [hsN] at h)<;>(try simp only [h])<;>(try simp only [hsB] at h)<;>try exact xf)|fail));all_goals clear kk1)
 all_goals first|exact RetQ.r (xs:=[.a [.d (.s (.int .u8 6)),.d (.s (.int .u64 (id:Nat))),.d De,.d Df,.d De,.d Dn,.d De,.d Dn,.d Dn,.d Dn,.d Df,.d De,.d De,.d (.s (.string ⟨(pg.pre).toArray⟩)),.d (.s (.bool pg.leaf)),.d (.l pg.slots.length (slsD pg.slots)),.d (.l pg.items.length (itsD pg.items)),.d Dn,.d D0,.d De]]) 0 rfl (Nat.le_of_ble_eq_true rfl) rfl rfl ⟨rfl,rfl⟩|exact RetQ.fr 0|exact RetQ.fn 0|exact xg
theorem rplain_27(m:Mg)(hk:m.kind=7):AC Tryz.prog 24 [iv .u8 2,mgV m] [] fun y σ=>y=mgV (m.pl 2)∧σ=[]:=by
 refine AC.wk Tryz.func24 ?_
 obtain ⟨knd,id,key,fnd,obj,old,ctx,mt,dd,vl,px,pg,rg,cd,tx⟩:=m
 simp only at hk
 subst hk
 have hh:=ref23_Has 2 7 (by decide) (by decide)
 rw [show has 2 7=true from rfl] at hh
 focus (have kk1:=uN [] hh;(repeat' (first|refine G ?_|refine AW.ret ?_|(refine GC ?_ ?_<;>intro h<;>(try simp only [hsB] at h)<;>try exact xf)|(refine GL ?_ ?_<;>intro h<;>(try simp only [hsN] at h)<;>(try simp only [h])<;>(try simp only [hsB] at h)<;>try exact xf)|fail));all_goals clear kk1)
 all_goals first|exact RetQ.r (xs:=[.a [.d (.s (.int .u8 7)),.d (.s (.int .u64 (id:Nat))),.d De,.d Df,.d De,.d Dn,.d De,.d Dn,.d Dn,.d Dn,.d Df,.d De,.d De,.d De,.d Df,.d Dn,.d Dn,.d (.l rg.length (ringD rg)),.d D0,.d De]]) 0 rfl (Nat.le_of_ble_eq_true rfl) rfl rfl ⟨rfl,rfl⟩|exact RetQ.fr 0|exact RetQ.fn 0|exact xg
theorem rplain_28(m:Mg)(hk:m.kind=8):AC Tryz.prog 24 [iv .u8 2,mgV m] [] fun y σ=>y=mgV (m.pl 2)∧σ=[]:=by
 refine AC.wk Tryz.func24 ?_
 obtain ⟨knd,id,key,fnd,obj,old,ctx,mt,dd,vl,px,pg,rg,cd,tx⟩:=m
 simp only at hk
 subst hk
 have hh:=ref23_Has 2 8 (by decide) (by decide)
 rw [show has 2 8=true from rfl] at hh
 focus (have kk1:=uN [] hh;(repeat' (first|refine G ?_|refine AW.ret ?_|(refine GC ?_ ?_<;>intro h<;>(try simp only [hsB] at h)<;>try exact xf)|(refine GL ?_ ?_<;>intro h<;>(try simp only [hsN] at h)<;>(try simp only [h])<;>(try simp only [hsB] at h)<;>try exact xf)|fail));all_goals clear kk1)
 all_goals first|exact RetQ.r (xs:=[.a [.d (.s (.int .u8 8)),.d (.s (.int .u64 (id:Nat))),.d De,.d Df,.d De,.d Dn,.d De,.d Dn,.d Dn,.d Dn,.d Df,.d De,.d De,.d De,.d Df,.d Dn,.d Dn,.d Dn,.d (.s (.int .i64 cd)),.d (.s (.string ⟨(tx).toArray⟩))]]) 0 rfl (Nat.le_of_ble_eq_true rfl) rfl rfl ⟨rfl,rfl⟩|exact RetQ.fr 0|exact RetQ.fn 0|exact xg
theorem rplain_29(m:Mg)(hk:m.kind=9):AC Tryz.prog 24 [iv .u8 2,mgV m] [] fun y σ=>y=mgV (m.pl 2)∧σ=[]:=by
 refine AC.wk Tryz.func24 ?_
 obtain ⟨knd,id,key,fnd,obj,old,ctx,mt,dd,vl,px,pg,rg,cd,tx⟩:=m
 simp only at hk
 subst hk
 have hh:=ref23_Has 2 9 (by decide) (by decide)
 rw [show has 2 9=true from rfl] at hh
 focus (have kk1:=uN [] hh;(repeat' (first|refine G ?_|refine AW.ret ?_|(refine GC ?_ ?_<;>intro h<;>(try simp only [hsB] at h)<;>try exact xf)|(refine GL ?_ ?_<;>intro h<;>(try simp only [hsN] at h)<;>(try simp only [h])<;>(try simp only [hsB] at h)<;>try exact xf)|fail));all_goals clear kk1)
 all_goals first|exact RetQ.r (xs:=[.a [.d (.s (.int .u8 9)),.d (.s (.int .u64 (id:Nat))),.d De,.d Df,.d (.s (.string ⟨(obj.key).toArray⟩)),.d (.l obj.sibs.length (sbsD obj.sibs)),.d De,.d Dn,.d Dn,.d Dn,.d Df,.d De,.d De,.d De,.d Df,.d Dn,.d Dn,.d Dn,.d D0,.d De]]) 0 rfl (Nat.le_of_ble_eq_true rfl) rfl rfl ⟨rfl,rfl⟩|exact RetQ.fr 0|exact RetQ.fn 0|exact xg
theorem msg_Plain(v:Nat)(m:Mg)(hb:m.small)(hh:has v m.kind=true):AC Tryz.prog 22 [iv .u8 (v:Nat),mgV m] [] fun x σ=>x=mgV (m.plain v)∧σ=[]:=by
 rw [plain_has hh]
 rcases has_cases hh with ⟨rfl,h|h|h⟩|⟨rfl,h|h|h|h|h|h|h|h|h⟩
 ·exact plain_11 m hb h
 ·exact plain_12 m hb h
 ·exact plain_18 m hb h
 ·exact plain_21 m hb h
 ·exact plain_22 m hb h
 ·exact plain_23 m hb h
 ·exact plain_24 m hb h
 ·exact plain_25 m hb h
 ·exact plain_26 m hb h
 ·exact plain_27 m hb h
 ·exact plain_28 m hb h
 ·exact plain_29 m hb h
theorem ref23_Plain(v:Nat)(m:Mg)(hh:has v m.kind=true):AC Tryz.prog 24 [iv .u8 (v:Nat),mgV m] [] fun x σ=>x=mgV (m.plain v)∧σ=[]:=by
 rw [plain_has hh]
 rcases has_cases hh with ⟨rfl,h|h|h⟩|⟨rfl,h|h|h|h|h|h|h|h|h⟩
 ·exact rplain_11 m h
 ·exact rplain_12 m h
 ·exact rplain_18 m h
 ·exact rplain_21 m h
 ·exact rplain_22 m h
 ·exact rplain_23 m h
 ·exact rplain_24 m h
 ·exact rplain_25 m h
 ·exact rplain_26 m h
 ·exact rplain_27 m h
 ·exact rplain_28 m h
 ·exact rplain_29 m h
theorem pl_parts(v:Nat)(m:Mg):(m.pl v).kind=m.kind∧(m.pl v).id=m.id∧((m.pl v).key=m.key∨(m.pl v).key=[])∧((m.pl v).obj=m.obj∨(m.pl v).obj=oj0)∧((m.pl v).old=m.old∨(m.pl v).old=od0)∧((m.pl v).ctx=m.ctx∨(m.pl v).ctx=[])∧((m.pl v).meta_=m.meta_∨(m.pl v).meta_=[])∧((m.pl v).val=m.val∨(m.pl v).val=[])∧((m.pl v).pre=m.pre∨(m.pl v).pre=[])∧((m.pl v).page=m.page∨(m.pl v).page=pg0)∧((m.pl v).ring=m.ring∨(m.pl v).ring=[])∧((m.pl v).code=m.code∨(m.pl v).code=0)∧((m.pl v).txt=m.txt∨(m.pl v).txt=[]):=by
 refine ⟨pl_kind v m,pl_id v m,?_⟩
 have hif:∀ {α:Type}(p:Prop) [Decidable p] (a b:α),(if p then a else b)=a∨(if p then a else b)=b:=fun p _ a b=>by split<;>simp
 unfold Mg.pl
 split
 all_goals refine ⟨?_,?_,?_,?_,?_,?_,?_,?_,?_,?_,?_⟩
 all_goals first|exact .inl rfl|exact .inr rfl|exact hif _ _ _
theorem Vec.great_small{x:Vec}(h:x.great=false):x.length≤100:=by
 unfold Vec.great at h
 simp only [Bool.or_eq_false_iff,decide_eq_false_iff_not] at h
 omega
theorem Prs.great_small{x:Prs}(h:x.great=false):x.length≤20:=by
 unfold Prs.great at h
 simp only [Bool.or_eq_false_iff,decide_eq_false_iff_not] at h
 omega
theorem Ck.great_small{k:Ck}(h:k.great=false):k.ctx.length≤100:=by
 unfold Ck.great at h
 simp only [Bool.or_eq_false_iff] at h
 exact Vec.great_small h.1
theorem Mg.great_small{m:Mg}(h:m.great=false):m.small:=by
 unfold Mg.great at h
 simp only [Bool.or_eq_false_iff,decide_eq_false_iff_not] at h
 obtain ⟨⟨⟨⟨⟨⟨⟨⟨⟨g1,g2⟩,g3⟩,g4⟩,g5⟩,g6⟩,_⟩,_⟩,_⟩,_⟩:=h
 have a3:=Vec.great_small g3
 have a4:=Prs.great_small g4
 unfold Pg.great at g5
 unfold Ring.great at g6
 unfold Oj.great at g1
 unfold Od.great at g2
 simp only [Bool.or_eq_false_iff,decide_eq_false_iff_not,List.any_eq_false,Bool.not_eq_true] at g1 g2 g5 g6
 refine ⟨by omega,by omega,⟨by omega,by omega⟩,⟨by omega,fun y hy=>?_⟩,⟨by omega,fun x hx=>?_⟩,by omega,fun x hx=>?_⟩
 ·obtain ⟨e1,e2,_⟩:=Sb.great_parts (g1.2 y hy)
  have:=Prs.great_small e2
  have:=Ck.great_small e1
  exact ⟨by omega,by omega⟩
 ·have:=Vec.great_small (g2.2 x hx).1
  omega
 ·have:=(g6.2 x hx).2
  omega
theorem ref23_Check(v:Nat)(m:Mg)(hv:v<256)(hf:m.fits):AC Tryz.prog 23 [iv .u8 (v:Nat),mgV m] [] fun y σ=>y=iv .i64 (m.check v)∧σ=[]:=by
 cases hh:has v m.kind with
 | false=>exact rcheck_none v m hv hf.1 hh
 | true=>
  rcases has_cases hh with ⟨rfl,h|h|h⟩|⟨rfl,h|h|h|h|h|h|h|h|h⟩
  ·exact rcheck_11 m hf h
  ·exact rcheck_12 m hf h
  ·exact rcheck_18 m hf h
  ·exact rcheck_21 m hf h
  ·exact rcheck_22 m hf h
  ·exact rcheck_23 m hf h
  ·exact rcheck_24 m hf h
  ·exact rcheck_25 m hf h
  ·exact rcheck_26 m hf h
  ·exact rcheck_27 m hf h
  ·exact rcheck_28 m hf h
  ·exact rcheck_29 m hf h
theorem Mg.pl_fits{v:Nat}{m:Mg}(h:m.fits):(m.pl v).fits:=by
 obtain ⟨p1,p2,p3,p4,p5,p6,p7,p8,p9,p10,p11,p12,p13⟩:=pl_parts v m
 obtain ⟨h1,h2,h3,h4,h5,h6,h7,h8,h9,h10,h11,h12,h13⟩:=h
 unfold Mg.fits
 refine ⟨by rw [p1];exact h1,by rw [p2];exact h2,?_,?_,?_,?_,?_,?_,?_,?_,?_,?_,?_⟩
 ·rcases p3 with e|e<;>rw [e];exact h3;exact Nat.zero_le _
 ·rcases p4 with e|e<;>rw [e];exact h4;exact oj0_fits
 ·rcases p5 with e|e<;>rw [e];exact h5;exact od0_fits
 ·rcases p6 with e|e<;>rw [e];exact h6;exact vec0_fits
 ·rcases p7 with e|e<;>rw [e];exact h7;exact prs0_fits
 ·rcases p8 with e|e<;>rw [e];exact h8;exact Nat.zero_le _
 ·rcases p9 with e|e<;>rw [e];exact h9;exact Nat.zero_le _
 ·rcases p10 with e|e<;>rw [e];exact h10;exact pg0_fits
 ·rcases p11 with e|e<;>rw [e];exact h11;exact Ring.fits_nil
 ·rcases p12 with e|e<;>rw [e];exact h12;exact (show (-9223372036854775808:Int)≤0∧(0:Int)≤9223372036854775807 by decide)
 ·rcases p13 with e|e<;>rw [e];exact h13;exact Nat.zero_le _
theorem msg_PlainA(v:Nat)(m:Mg)(hv:v<256)(hf:m.fits)(hb:m.small):AC Tryz.prog 22 [iv .u8 (v:Nat),mgV m] [] fun x σ=>x=mgV (m.plain v)∧σ=[]:=by
 cases hh:has v m.kind with
 | true=>exact msg_Plain v m hb hh
 | false=>
  rw [show m.plain v=mg0 by unfold Mg.plain;rw [if_pos hh]]
  refine AC.wk Tryz.func22 ?_
  have hk:=hf.1
  have hp:=parts_none v m.kind hv hf.1 hh
  (have kk1:=uN [] hp;exact Wd0)
theorem ref23_PlainA(v:Nat)(m:Mg)(hv:v<256)(hf:m.fits):AC Tryz.prog 24 [iv .u8 (v:Nat),mgV m] [] fun x σ=>x=mgV (m.plain v)∧σ=[]:=by
 cases hh:has v m.kind with
 | true=>exact ref23_Plain v m hh
 | false=>exact rplain_none v m hv hf.1 hh
theorem Mg.plain_fits{v:Nat}{m:Mg}(h:m.fits):(m.plain v).fits:=by
 unfold Mg.plain
 split
 ·exact mg0_fits
 ·exact Mg.pl_fits h
theorem msgEncodes(v:Nat)(hv:v<256)(m o:Mg)(hf:m.fits)(ho:o.fits):AC Tryz.prog 5 [iv .u8 (v:Nat),mgV m,mgV o] [] fun x σ=>x=bv true∧σ=[]:=by
 refine AC.wk Tryz.func5 ?_
 have hgr':=ref23_Great m hf
 have hgo':=ref23_Great o ho
 have hk:=hf.1
 by_cases hgr:Mg.great m=true
 ·rw [hgr] at hgr'
  (have kk1:=uN [] awake23;have kk2:=uN [] hgr';exact We0)
 have hgr:Mg.great m=false:=by simpa using hgr
 rw [hgr] at hgr'
 have hsm:=Mg.great_small hgr
 by_cases hgo:Mg.great o=true
 ·rw [hgo] at hgo'
  (have kk1:=uN [] awake23;have kk2:=uN [] hgr';have kk3:=uN [] hgo';exact We0)
 have hgo:Mg.great o=false:=by simpa using hgo
 rw [hgo] at hgo'
 have he1:=msg_Encode v m hv hf
 have he2:=ref23_Encode v m hv hf
 have hp1:=msg_PlainA v m hv hf hsm
 have hp2:=ref23_PlainA v m hv hf
 have hc1:=msg_Check v m hv hf
 have hc2:=ref23_Check v m hv hf
 have hs1:=msg_Same m o hf ho
 have hs2:=ref23_Same m o hf ho
 have hpf:=Mg.plain_fits (v:=v) hf
 have hs3:=ref23_SameR (m.plain v) hpf
 have hde:(msge v m).2=0→AC Tryz.prog 9 [iv .u8 (v:Nat),iv .u8 (m.kind:Nat),sv (bs (msge v m).1)] [] fun y σ=>y=.t [mgV (m.plain v),iv .i64 0]∧σ=[]:=fun h=>by
  have hl:(msge v m).1.length≤65536:=by
   obtain ⟨_,_,e1,_,e2⟩:=msge_yes h
   rw [e1];exact e2
  have:=msg_Decode v m.kind (msge v m).1 hv hf.1 (by omega)
  rw [msgw_fore hf.2.1 (Mg.nums_of hf) h] at this
  exact this
 generalize decide (m=o)=b at *
 generalize m.plain v=q at *
 generalize m.check v=cc at *
 generalize msge v m=z at *
 obtain ⟨t,e⟩:=z
 simp only at he1 he2 hde
 by_cases he:e=0
 ·have hdx:=hde he
  clear hde
  subst he
  (have kk1:=uN [] awake23;have kk2:=uN [] hgr';have kk3:=uN [] hgo';have kk4:=uN [] he1;have kk5:=uN [] he2;have kk6:=uN [] hp1;have kk7:=uN [] hp2;have kk8:=uN [] hc1;have kk9:=uN [] hc2;have kk10:=uN [] hs1;have kk11:=uN [] hs2;have kk12:=uN [] hs3;have kk13:=uN [] hdx;exact We0)
 ·(have kk1:=uN [] awake23;have kk2:=uN [] hgr';have kk3:=uN [] hgo';have kk4:=uN [] he1;have kk5:=uN [] he2;have kk6:=uN [] hp1;have kk7:=uN [] hp2;have kk8:=uN [] hc1;have kk9:=uN [] hc2;have kk10:=uN [] hs1;have kk11:=uN [] hs2;have kk12:=uN [] hs3;exact We0)
theorem msgEncodesI(v:Int)(hv:0≤v∧v≤255)(m o:Mg)(hf:m.fits)(ho:o.fits):AC Tryz.prog 5 [iv .u8 v,mgV m,mgV o] [] fun x σ=>x=bv true∧σ=[]:=by
 obtain ⟨v,rfl⟩:=Int.eq_ofNat_of_zero_le hv.1
 exact msgEncodes v (by omega) m o hf ho
end Go.AW
