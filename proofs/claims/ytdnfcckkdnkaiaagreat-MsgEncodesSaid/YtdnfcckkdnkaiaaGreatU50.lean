/-
  a message's parts: plain messages.
-/
import Derived.Test.YtdnfcckkdnkaiaaGreatU49
set_option linter.unusedVariables false
set_option linter.unusedSimpArgs false
set_option maxHeartbeats 4000000
set_option maxRecDepth 10000
namespace Go.AW
open Go Go.Proofs
attribute [local irreducible] thenQ blockQ RetQ AL AW AC AOp
theorem over_old(m:Mg)(d0 d1 d2 d3 d4 d5 d6 d7 d8 d9 d10 d11 d12 d13 d14 d15 d16 d17 d18 d19:D)(hl:m.old.sibs.length≤1000000)(hc:∀ x ∈ m.old.sibs,x.clk.length≤1000000):AC Tryz.prog 191 [.p 0 0,mgV m] [.box 38 [.d d0,.d d1,.d d2,.d d3,.d d4,.d d5,.d d6,.d d7,.d d8,.d d9,.d d10,.d d11,.d d12,.d d13,.d d14,.d d15,.d d16,.d d17,.d d18,.d d19]] fun y σ=>y=.t []∧σ=[.box 38 [.d d0,.d d1,.d d2,.d d3,.d d4,.d d5,sv (bs m.old.key),.o 2 m.old.sibs.length,.d d8,.d d9,.d d10,.d d11,.d d12,.d d13,.d d14,.d d15,.d d16,.d d17,.d d18,.d d19],.box 38 (mgC m),.row 172 3 m.old.sibs.length (ossD m.old.sibs)]:=by
 refine AC.wk Tryz.func191 ?_
 focus ((repeat' (first|(refine ADr.nil ?_;try clear hgv)|refine GO ?_|refine AW.ret ?_|(refine GC ?_ ?_<;>intro h<;>(try simp only [hsB] at h)<;>try exact xf)|(refine GD ?_ ?_<;>intro h<;>(try intro hgv)<;>(try simp only [hsN] at h)<;>(try simp only [h])<;>(try simp only [hsB] at h)<;>try exact xf)|(refine GL ?_ ?_<;>intro h<;>(try simp only [hsN] at h)<;>(try simp only [h])<;>(try simp only [hsB] at h)<;>try exact xf)|fail)))
 all_goals first|exact xg|skip
 refine AW.birth 172 3 [] [(0,7)] ?_
 refine AW.rounds [0,15,16,17] (fun i:Nat=>[(0,.p 0 0),(15,.d (.l m.old.sibs.length (ossD m.old.sibs))),(16,iv .i64 m.old.sibs.length),(17,iv .i64 i)])
  (fun i=>[.box 38 [.d d0,.d d1,.d d2,.d d3,.d d4,.d d5,sv (bs m.old.key),.o 2 i,.d d8,.d d9,.d d10,.d d11,.d d12,.d d13,.d d14,.d d15,.d d16,.d d17,.d d18,.d d19],.box 38 (mgC m),.row 172 3 i (ossD (m.old.sibs.take i))])
  (fun i=>i≤m.old.sibs.length) (fun i=>m.old.sibs.length-i) 0 (Nat.zero_le _) rfl rfl (fun _ _=>by show 1≤3;decide) (fun _ _=>rfl) (fun _ _=>rfl) ?_
 rintro i hi J hJ
 by_cases hil:i<m.old.sibs.length
 ·obtain ⟨x,r,hd⟩:=next_at hil
  have hcd:=oss_drop hd
  have hcp:=clone_En x.clk (hc x (next_mem hd))
  have hsn:=oss_snoc (m.old.sibs.take i) x
  rw [←next_take hd] at hsn
  have hon:onesD [D.l x.clk.length (vecD x.clk),.s (.bool x.dead),.s (.string ⟨x.val.toArray⟩)]=true:=rfl
  focus (have kxs:=And.intro hcd hon;have kk1:=uN [] hcp;(repeat' (first|(refine ADr.nil ?_;try clear hgv)|refine GW ?_|refine AW.ret ?_|(refine GC ?_ ?_<;>intro h<;>(try simp only [hsB] at h)<;>try exact xf)|(refine GD ?_ ?_<;>intro h<;>(try intro hgv)<;>(try simp only [hsN] at h)<;>(try simp only [h])<;>(try simp only [hsB] at h)<;>try exact xf)|(refine GL ?_ ?_<;>intro h<;>(try simp only [hsN] at h)<;>(try simp only [h])<;>(try simp only [hsB] at h)<;>try exact xf)|fail));all_goals clear kxs kk1)
  all_goals first|(refine hJ (i+1) _ _ (by omega) hil rfl ?_;rw [←hsn];rfl)|(exfalso;simp_all;done)
 ·have hi2:i=m.old.sibs.length:=by omega
  subst hi2
  rw [List.take_length]
  clear hJ
  exact We3
theorem over_ring(m:Mg)(d0 d1 d2 d3 d4 d5 d6 d7 d8 d9 d10 d11 d12 d13 d14 d15 d16 d18 d19:D)(hl:m.ring.length≤1000000)(hc:∀ x ∈ m.ring,x.toks.length≤1000000):AC Tryz.prog 233 [.p 0 0,mgV m] [.box 38 [.d d0,.d d1,.d d2,.d d3,.d d4,.d d5,.d d6,.d d7,.d d8,.d d9,.d d10,.d d11,.d d12,.d d13,.d d14,.d d15,.d d16,.d Dn,.d d18,.d d19]] fun y σ=>y=.t []∧σ=[.box 38 [.d d0,.d d1,.d d2,.d d3,.d d4,.d d5,.d d6,.d d7,.d d8,.d d9,.d d10,.d d11,.d d12,.d d13,.d d14,.d d15,.d d16,.o 2 m.ring.length,.d d18,.d d19],.box 38 (mgC m),.row 183 4 m.ring.length (ringD m.ring)]:=by
 refine AC.wk Tryz.func233 ?_
 focus ((repeat' (first|(refine ADr.nil ?_;try clear hgv)|refine GO ?_|refine AW.ret ?_|(refine GC ?_ ?_<;>intro h<;>(try simp only [hsB] at h)<;>try exact xf)|(refine GD ?_ ?_<;>intro h<;>(try intro hgv)<;>(try simp only [hsN] at h)<;>(try simp only [h])<;>(try simp only [hsB] at h)<;>try exact xf)|(refine GL ?_ ?_<;>intro h<;>(try simp only [hsN] at h)<;>(try simp only [h])<;>(try simp only [hsB] at h)<;>try exact xf)|fail)))
 all_goals first|exact xg|skip
 refine AW.birth 183 4 [] [(0,17)] ?_
 refine AW.rounds [0,7,8,9] (fun i:Nat=>[(0,.p 0 0),(7,.d (.l m.ring.length (ringD m.ring))),(8,iv .i64 m.ring.length),(9,iv .i64 i)])
  (fun i=>[.box 38 [.d d0,.d d1,.d d2,.d d3,.d d4,.d d5,.d d6,.d d7,.d d8,.d d9,.d d10,.d d11,.d d12,.d d13,.d d14,.d d15,.d d16,.o 2 i,.d d18,.d d19],.box 38 (mgC m),.row 183 4 i (ringD (m.ring.take i))])
  (fun i=>i≤m.ring.length) (fun i=>m.ring.length-i) 0 (Nat.zero_le _) rfl rfl (fun _ _=>by show 1≤3;decide) (fun _ _=>rfl) (fun _ _=>rfl) ?_
 rintro i hi J hJ
 by_cases hil:i<m.ring.length
 ·obtain ⟨x,r,hd⟩:=next_at hil
  have hcd:=ring_drop hd
  have hcp:=clone_64 x.toks (hc x (next_mem hd))
  have hsn:=ring_snoc (m.ring.take i) x
  rw [←next_take hd] at hsn
  have hon:onesD [D.s (.string ⟨x.name.toArray⟩),.s (.int .u64 (x.ep:Nat)),.s (.int .u8 (x.st:Nat)),.l x.toks.length (toksD x.toks)]=true:=rfl
  focus (have kxs:=And.intro hcd hon;have kk1:=uN [] hcp;(repeat' (first|(refine ADr.nil ?_;try clear hgv)|refine GW ?_|refine AW.ret ?_|(refine GC ?_ ?_<;>intro h<;>(try simp only [hsB] at h)<;>try exact xf)|(refine GD ?_ ?_<;>intro h<;>(try intro hgv)<;>(try simp only [hsN] at h)<;>(try simp only [h])<;>(try simp only [hsB] at h)<;>try exact xf)|(refine GL ?_ ?_<;>intro h<;>(try simp only [hsN] at h)<;>(try simp only [h])<;>(try simp only [hsB] at h)<;>try exact xf)|fail));all_goals clear kxs kk1)
  all_goals first|(refine hJ (i+1) _ _ (by omega) hil rfl ?_;rw [←hsn];rfl)|(exfalso;simp_all;done)
 ·have hi2:i=m.ring.length:=by omega
  subst hi2
  rw [List.take_length]
  clear hJ
  exact We3
theorem overn_found_object(m:Mg)(d0 d1 d2 d3 d4 d5 d6 d7 d8 d9 d10 d11 d12 d13 d14 d15 d16 d17 d18 d19:D)(h0:m.found=false):AC Tryz.prog 183 [.p 0 0,mgV m,.p 1 0] [.box 38 [.d d0,.d d1,.d d2,.d d3,.d d4,.d d5,.d d6,.d d7,.d d8,.d d9,.d d10,.d d11,.d d12,.d d13,.d d14,.d d15,.d d16,.d d17,.d d18,.d d19],qo17] fun y σ=>y=.t []∧σ=[.box 38 [.d d0,.d d1,.d d2,.d d3,.d d4,.d d5,.d d6,.d d7,.d d8,.d d9,.d d10,.d d11,.d d12,.d d13,.d d14,.d d15,.d d16,.d d17,.d d18,.d d19],qo17]:=by
 refine AC.wk Tryz.func183 ?_
 (have kxs:=h0;exact Wd2)
theorem overn_found_old(m:Mg)(d0 d1 d2 d3 d4 d5 d6 d7 d8 d9 d10 d11 d12 d13 d14 d15 d16 d17 d18 d19:D)(h0:m.found=false):AC Tryz.prog 183 [.p 0 0,mgV m,.p 1 0] [.box 38 [.d d0,.d d1,.d d2,.d d3,.d d4,.d d5,.d d6,.d d7,.d d8,.d d9,.d d10,.d d11,.d d12,.d d13,.d d14,.d d15,.d d16,.d d17,.d d18,.d d19],qo18] fun y σ=>y=.t []∧σ=[.box 38 [.d d0,.d d1,.d d2,.d d3,.d d4,.d d5,.d d6,.d d7,.d d8,.d d9,.d d10,.d d11,.d d12,.d d13,.d d14,.d d15,.d d16,.d d17,.d d18,.d d19],qo18]:=by
 refine AC.wk Tryz.func183 ?_
 (have kxs:=h0;exact Wd2)
theorem over_found_object(m:Mg)(d0 d1 d2 d3 d4 d5 d6 d7 d8 d9 d10 d11 d12 d13 d14 d15 d16 d17 d18 d19:D)(h0:m.found=true)(h1:m.obj.sibs.length≤1000000)(h2:∀ y ∈ m.obj.sibs,y.clk.ctx.length≤1000000∧y.meta_.length≤1000000):AC Tryz.prog 183 [.p 0 0,mgV m,.p 1 0] [.box 38 [.d d0,.d d1,.d d2,.d d3,.d d4,.d d5,.d d6,.d d7,.d d8,.d d9,.d d10,.d d11,.d d12,.d d13,.d d14,.d d15,.d d16,.d d17,.d d18,.d d19],qo17] fun y σ=>y=.t []∧σ=[.box 38 [.d d0,.d d1,.d d2,.d d3,sv (bs m.obj.key),.d (.l m.obj.sibs.length (sbsD m.obj.sibs)),.d d6,.d d7,.d d8,.d d9,.d d10,.d d11,.d d12,.d d13,.d d14,.d d15,.d d16,.d d17,.d d18,.d d19],qo17]:=by
 refine AC.wk Tryz.func183 ?_
 have hc:=over_object m d0 d1 d2 d3 d4 d5 d6 d7 d8 d9 d10 d11 d12 d13 d14 d15 d16 d17 d18 d19 h1 h2
 obtain ⟨knd,id,key,fnd,obj,old,ctx,mt,dd,vl,px,pg,rg,cd,tx⟩:=m
 simp only at h0
 subst h0
 (have kk1:=uN [0] hc;exact Wd2)
theorem over_found_old(m:Mg)(d0 d1 d2 d3 d4 d5 d6 d7 d8 d9 d10 d11 d12 d13 d14 d15 d16 d17 d18 d19:D)(h0:m.found=true)(h1:m.old.sibs.length≤1000000)(h2:∀ x ∈ m.old.sibs,x.clk.length≤1000000):AC Tryz.prog 183 [.p 0 0,mgV m,.p 1 0] [.box 38 [.d d0,.d d1,.d d2,.d d3,.d d4,.d d5,.d d6,.d d7,.d d8,.d d9,.d d10,.d d11,.d d12,.d d13,.d d14,.d d15,.d d16,.d d17,.d d18,.d d19],qo18] fun y σ=>y=.t []∧σ=[.box 38 [.d d0,.d d1,.d d2,.d d3,.d d4,.d d5,sv (bs m.old.key),.o 4 m.old.sibs.length,.d d8,.d d9,.d d10,.d d11,.d d12,.d d13,.d d14,.d d15,.d d16,.d d17,.d d18,.d d19],qo18,.box 38 (mgC m),.box 38 (mgC m),.row 172 3 m.old.sibs.length (ossD m.old.sibs)]:=by
 refine AC.wk Tryz.func183 ?_
 have hc:=over_old m d0 d1 d2 d3 d4 d5 d6 d7 d8 d9 d10 d11 d12 d13 d14 d15 d16 d17 d18 d19 h1 h2
 obtain ⟨knd,id,key,fnd,obj,old,ctx,mt,dd,vl,px,pg,rg,cd,tx⟩:=m
 simp only at h0
 subst h0
 (have kk1:=uN [0] hc;exact Wd5)
def Mg.small(m:Mg):Prop:=m.ctx.length≤1000000∧m.meta_.length≤1000000∧(m.page.slots.length≤1000000∧m.page.items.length≤1000000)∧(m.obj.sibs.length≤1000000∧∀ y ∈ m.obj.sibs,y.clk.ctx.length≤1000000∧y.meta_.length≤1000000)∧(m.old.sibs.length≤1000000∧∀ x ∈ m.old.sibs,x.clk.length≤1000000)∧m.ring.length≤1000000∧∀ x ∈ m.ring,x.toks.length≤1000000
theorem plain_11(m:Mg)(hb:m.small)(hk:m.kind=1):AC Tryz.prog 22 [iv .u8 1,mgV m] [] fun y σ=>y=mgV (m.pl 1)∧σ=[]:=by
 refine AC.wk Tryz.func22 ?_
 obtain ⟨knd,id,key,fnd,obj,old,ctx,mt,dd,vl,px,pg,rg,cd,tx⟩:=m
 simp only at hk
 subst hk
 have hp:=parts_11
 have t0:=over_Key ⟨1,id,key,fnd,obj,old,ctx,mt,dd,vl,px,pg,rg,cd,tx⟩ (.s (.int .u8 1)) (.s (.int .u64 (id:Nat))) De Df De Dn De Dn Dn Dn Df De De De Df Dn Dn Dn D0 De
 focus (have kk1:=uN [] hp;(repeat' (first|refine G ?_|refine AW.ret ?_|(refine GC ?_ ?_<;>intro h<;>(try simp only [hsB] at h)<;>try exact xf)|(refine GL ?_ ?_<;>intro h<;>(try simp only [hsN] at h)<;>(try simp only [h])<;>(try simp only [hsB] at h)<;>try exact xf)|fail));all_goals clear kk1)
 all_goals first|exact xg|skip
 refine AW.rounds [3,4,7,25,26,27] (fun i:Nat=>[(3,.p 0 0),(4,.p 1 0),(7,.p 13 0),(25,.b 12 0 1),(26,iv .i64 1),(27,iv .i64 (i:Nat))]) (fun i=>[.box 38 (mgC ⟨1,id,key,fnd,obj,old,ctx,mt,dd,vl,px,pg,rg,cd,tx⟩),.box 38 [.d (.s (.int .u8 0)),.d (.s (.int .u64 0)),.d De,.d Df,.d De,.d Dn,.d De,.d Dn,.d Dn,.d Dn,.d Df,.d De,.d De,.d De,.d Df,.d Dn,.d Dn,.d Dn,.d D0,.d De],qo29,.box 4 [bv true],qo22,qo12,qo26,qo16,qo30,.box 4 [bv false],qo23,qo7,qo12,.box 38 [.d (.s (.int .u8 1)),.d (.s (.int .u64 (id:Nat))),(match i with|0=>.d De|_=>.d (.s (.string ⟨(key).toArray⟩))),.d Df,.d De,.d Dn,.d De,.d Dn,.d Dn,.d Dn,.d Df,.d De,.d De,.d De,.d Df,.d Dn,.d Dn,.d Dn,.d D0,.d De]])
  (fun i=>i≤1) (fun i=>1-i) 0 (Nat.zero_le _) rfl rfl (fun _ _=>Nat.zero_le _) (fun i _=>by rcases i with _|i<;>rfl) (fun i _=>by rcases i with _|i<;>rfl) ?_
 rintro i hi J hJ
 have hc:i=0∨i=1:=by omega
 rcases hc with rfl|rfl
 ·clear hp
  (have kk1:=uN [13,4] t0;have go:=fun zT zs=>hJ 1 zT zs (by decide) (by decide);exact Wdg)
 ·clear hp hJ
  focus ((repeat' (first|refine G ?_|refine AW.ret ?_|(refine GC ?_ ?_<;>intro h<;>(try simp only [hsB] at h)<;>try exact xf)|(refine GL ?_ ?_<;>intro h<;>(try simp only [hsN] at h)<;>(try simp only [h])<;>(try simp only [hsB] at h)<;>try exact xf)|fail)))
  all_goals first|exact RetQ.r (xs:=[.a [.d (.s (.int .u8 1)),.d (.s (.int .u64 (id:Nat))),.d (.s (.string ⟨(key).toArray⟩)),.d Df,.d De,.d Dn,.d De,.d Dn,.d Dn,.d Dn,.d Df,.d De,.d De,.d De,.d Df,.d Dn,.d Dn,.d Dn,.d D0,.d De]]) 0 rfl (Nat.le_of_ble_eq_true rfl) rfl rfl ⟨rfl,rfl⟩|exact RetQ.fr 0|exact RetQ.fn 0|exact xg
theorem plain_12(m:Mg)(hb:m.small)(hk:m.kind=2):AC Tryz.prog 22 [iv .u8 1,mgV m] [] fun y σ=>y=mgV (m.pl 1)∧σ=[]:=by
 refine AC.wk Tryz.func22 ?_
 obtain ⟨knd,id,key,fnd,obj,old,ctx,mt,dd,vl,px,pg,rg,cd,tx⟩:=m
 simp only at hk
 subst hk
 have hp:=parts_12
 cases fnd with
 | true=>
  have t0:=over_Found ⟨2,id,key,true,obj,old,ctx,mt,dd,vl,px,pg,rg,cd,tx⟩ (.s (.int .u8 2)) (.s (.int .u64 (id:Nat))) De Df De Dn De Dn Dn Dn Df De De De Df Dn Dn Dn D0 De
  have t1:=over_found_old ⟨2,id,key,true,obj,old,ctx,mt,dd,vl,px,pg,rg,cd,tx⟩ (.s (.int .u8 2)) (.s (.int .u64 (id:Nat))) De (.s (.bool true)) De Dn De Dn Dn Dn Df De De De Df Dn Dn Dn D0 De rfl hb.2.2.2.2.1.1 hb.2.2.2.2.1.2
  focus (have kk1:=uN [] hp;(repeat' (first|refine G ?_|refine AW.ret ?_|(refine GC ?_ ?_<;>intro h<;>(try simp only [hsB] at h)<;>try exact xf)|(refine GL ?_ ?_<;>intro h<;>(try simp only [hsN] at h)<;>(try simp only [h])<;>(try simp only [hsB] at h)<;>try exact xf)|fail));all_goals clear kk1)
  all_goals first|exact xg|skip
  refine AW.rounds [3,4,7,25,26,27] (fun i:Nat=>[(3,.p 0 0),(4,.p 1 0),(7,.p 14 0),(25,.b 13 0 2),(26,iv .i64 2),(27,iv .i64 (i:Nat))]) (fun i=>[.box 38 (mgC ⟨2,id,key,true,obj,old,ctx,mt,dd,vl,px,pg,rg,cd,tx⟩),.box 38 [.d (.s (.int .u8 0)),.d (.s (.int .u64 0)),.d De,.d Df,.d De,.d Dn,.d De,.d Dn,.d Dn,.d Dn,.d Df,.d De,.d De,.d De,.d Df,.d Dn,.d Dn,.d Dn,.d D0,.d De],qo29,.box 4 [bv true],qo22,qo12,qo26,qo16,qo30,.box 4 [bv false],qo23,qo7,qo18,qo5,.box 38 [.d (.s (.int .u8 2)),.d (.s (.int .u64 (id:Nat))),.d De,(match i with|0=>.d Df|1=>.d (.s (.bool true))|_=>.d (.s (.bool true))),.d De,.d Dn,(match i with|0=>.d De|1=>.d De|_=>.d (.s (.string ⟨(old.key).toArray⟩))),(match i with|0=>.d Dn|1=>.d Dn|_=>.o 18 old.sibs.length),.d Dn,.d Dn,.d Df,.d De,.d De,.d De,.d Df,.d Dn,.d Dn,.d Dn,.d D0,.d De]]++(match i with|0=>[]|1=>[]|_=>[.box 86 [.f (.func 180) [] [.p 12 0],.f (.func 181) [] [.p 12 0],.f (.func 182) [] [.p 12 0],.f (.func 183) [] [.p 12 0]],.box 38 (mgC ⟨2,id,key,true,obj,old,ctx,mt,dd,vl,px,pg,rg,cd,tx⟩),.box 38 (mgC ⟨2,id,key,true,obj,old,ctx,mt,dd,vl,px,pg,rg,cd,tx⟩),.row 172 3 old.sibs.length (ossD old.sibs)]))
   (fun i=>i≤2) (fun i=>2-i) 0 (Nat.zero_le _) rfl rfl (fun _ _=>Nat.zero_le _) (fun i _=>by rcases i with _|_|i<;>rfl) (fun i _=>by rcases i with _|_|i<;>rfl) ?_
  rintro i hi J hJ
  have hc:i=0∨i=1∨i=2:=by omega
  rcases hc with rfl|rfl|rfl
  ·clear hp
   (have kk1:=uN [14,6] t0;have go:=fun zT zs=>hJ 1 zT zs (by decide) (by decide);exact Wdg)
  ·clear hp
   (have kk1:=uN [14,12] t1;have go:=fun zT zs=>hJ 2 zT zs (by decide) (by decide);exact Wdg)
  ·clear hp hJ
   focus ((repeat' (first|refine G ?_|refine AW.ret ?_|(refine GC ?_ ?_<;>intro h<;>(try simp only [hsB] at h)<;>try exact xf)|(refine GL ?_ ?_<;>intro h<;>(try simp only [hsN] at h)<;>(try simp only [h])<;>(try simp only [hsB] at h)<;>try exact xf)|fail)))
   all_goals first|(((all_goals first|refine RetQ.yr 0 (xs:=[.a [.d (.s (.int .u8 2)),.d (.s (.int .u64 (id:Nat))),.d De,.d (.s (.bool true)),.d De,.d Dn,.d (.s (.string ⟨(old.key).toArray⟩)),.o 18 old.sibs.length,.d Dn,.d Dn,.d Df,.d De,.d De,.d De,.d Df,.d Dn,.d Dn,.d Dn,.d D0,.d De]]) ⟨?_,?_⟩|refine RetQ.yn 0 (xs:=[.a [.d (.s (.int .u8 2)),.d (.s (.int .u64 (id:Nat))),.d De,.d (.s (.bool true)),.d De,.d Dn,.d (.s (.string ⟨(old.key).toArray⟩)),.o 18 old.sibs.length,.d Dn,.d Dn,.d Df,.d De,.d De,.d De,.d Df,.d Dn,.d Dn,.d Dn,.d D0,.d De]]) ⟨?_,?_⟩);(all_goals exact fx));done)|exact RetQ.fr 0|exact RetQ.fn 0|exact xg
 | false=>
  have t0:=over_Found ⟨2,id,key,false,obj,old,ctx,mt,dd,vl,px,pg,rg,cd,tx⟩ (.s (.int .u8 2)) (.s (.int .u64 (id:Nat))) De Df De Dn De Dn Dn Dn Df De De De Df Dn Dn Dn D0 De
  have t1:=overn_found_old ⟨2,id,key,false,obj,old,ctx,mt,dd,vl,px,pg,rg,cd,tx⟩ (.s (.int .u8 2)) (.s (.int .u64 (id:Nat))) De Df De Dn De Dn Dn Dn Df De De De Df Dn Dn Dn D0 De rfl
  focus (have kk1:=uN [] hp;(repeat' (first|refine G ?_|refine AW.ret ?_|(refine GC ?_ ?_<;>intro h<;>(try simp only [hsB] at h)<;>try exact xf)|(refine GL ?_ ?_<;>intro h<;>(try simp only [hsN] at h)<;>(try simp only [h])<;>(try simp only [hsB] at h)<;>try exact xf)|fail));all_goals clear kk1)
  all_goals first|exact xg|skip
  refine AW.rounds [3,4,7,25,26,27] (fun i:Nat=>[(3,.p 0 0),(4,.p 1 0),(7,.p 14 0),(25,.b 13 0 2),(26,iv .i64 2),(27,iv .i64 (i:Nat))]) (fun i=>[.box 38 (mgC ⟨2,id,key,false,obj,old,ctx,mt,dd,vl,px,pg,rg,cd,tx⟩),.box 38 [.d (.s (.int .u8 0)),.d (.s (.int .u64 0)),.d De,.d Df,.d De,.d Dn,.d De,.d Dn,.d Dn,.d Dn,.d Df,.d De,.d De,.d De,.d Df,.d Dn,.d Dn,.d Dn,.d D0,.d De],qo29,.box 4 [bv true],qo22,qo12,qo26,qo16,qo30,.box 4 [bv false],qo23,qo7,qo18,qo5,.box 38 [.d (.s (.int .u8 2)),.d (.s (.int .u64 (id:Nat))),.d De,.d Df,.d De,.d Dn,.d De,.d Dn,.d Dn,.d Dn,.d Df,.d De,.d De,.d De,.d Df,.d Dn,.d Dn,.d Dn,.d D0,.d De]])
   (fun i=>i≤2) (fun i=>2-i) 0 (Nat.zero_le _) rfl rfl (fun _ _=>Nat.zero_le _) (fun i _=>by rcases i with _|_|i<;>rfl) (fun i _=>by rcases i with _|_|i<;>rfl) ?_
  rintro i hi J hJ
  have hc:i=0∨i=1∨i=2:=by omega
  rcases hc with rfl|rfl|rfl
  ·clear hp
   (have kk1:=uN [14,6] t0;have go:=fun zT zs=>hJ 1 zT zs (by decide) (by decide);exact Wdg)
  ·clear hp
   (have kk1:=uN [14,12] t1;have go:=fun zT zs=>hJ 2 zT zs (by decide) (by decide);exact Wdg)
  ·clear hp hJ
   focus ((repeat' (first|refine G ?_|refine AW.ret ?_|(refine GC ?_ ?_<;>intro h<;>(try simp only [hsB] at h)<;>try exact xf)|(refine GL ?_ ?_<;>intro h<;>(try simp only [hsN] at h)<;>(try simp only [h])<;>(try simp only [hsB] at h)<;>try exact xf)|fail)))
   all_goals first|exact RetQ.r (xs:=[.a [.d (.s (.int .u8 2)),.d (.s (.int .u64 (id:Nat))),.d De,.d Df,.d De,.d Dn,.d De,.d Dn,.d Dn,.d Dn,.d Df,.d De,.d De,.d De,.d Df,.d Dn,.d Dn,.d Dn,.d D0,.d De]]) 0 rfl (Nat.le_of_ble_eq_true rfl) rfl rfl ⟨rfl,rfl⟩|exact RetQ.fr 0|exact RetQ.fn 0|exact xg
theorem plain_18(m:Mg)(hb:m.small)(hk:m.kind=8):AC Tryz.prog 22 [iv .u8 1,mgV m] [] fun y σ=>y=mgV (m.pl 1)∧σ=[]:=by
 refine AC.wk Tryz.func22 ?_
 obtain ⟨knd,id,key,fnd,obj,old,ctx,mt,dd,vl,px,pg,rg,cd,tx⟩:=m
 simp only at hk
 subst hk
 have hp:=parts_18
 have t0:=over_code ⟨8,id,key,fnd,obj,old,ctx,mt,dd,vl,px,pg,rg,cd,tx⟩ (.s (.int .u8 8)) (.s (.int .u64 (id:Nat))) De Df De Dn De Dn Dn Dn Df De De De Df Dn Dn Dn D0 De
 have t1:=over_Text ⟨8,id,key,fnd,obj,old,ctx,mt,dd,vl,px,pg,rg,cd,tx⟩ (.s (.int .u8 8)) (.s (.int .u64 (id:Nat))) De Df De Dn De Dn Dn Dn Df De De De Df Dn Dn Dn (.s (.int .i64 cd)) De
 focus (have kk1:=uN [] hp;(repeat' (first|refine G ?_|refine AW.ret ?_|(refine GC ?_ ?_<;>intro h<;>(try simp only [hsB] at h)<;>try exact xf)|(refine GL ?_ ?_<;>intro h<;>(try simp only [hsN] at h)<;>(try simp only [h])<;>(try simp only [hsB] at h)<;>try exact xf)|fail));all_goals clear kk1)
 all_goals first|exact xg|skip
 refine AW.rounds [3,4,7,25,26,27] (fun i:Nat=>[(3,.p 0 0),(4,.p 1 0),(7,.p 13 0),(25,.b 12 0 2),(26,iv .i64 2),(27,iv .i64 (i:Nat))]) (fun i=>[.box 38 (mgC ⟨8,id,key,fnd,obj,old,ctx,mt,dd,vl,px,pg,rg,cd,tx⟩),.box 38 [.d (.s (.int .u8 0)),.d (.s (.int .u64 0)),.d De,.d Df,.d De,.d Dn,.d De,.d Dn,.d Dn,.d Dn,.d Df,.d De,.d De,.d De,.d Df,.d Dn,.d Dn,.d Dn,.d D0,.d De],qo29,.box 4 [bv true],qo22,qo12,qo26,qo16,qo30,.box 4 [bv false],qo23,qo7,.box 86 [.f (.func 201) [] [],.f (.func 202) [] [],.f (.func 204) [] [],.f (.func 205) [] [],.f (.func 168) [] [.p 9 0,.p 10 0,.p 8 0],.f (.func 170) [] [.p 8 0,.p 10 0],.f (.func 172) [] [.p 8 0,.p 10 0,.p 9 0],.f (.func 174) [] [.p 10 0]],.box 38 [.d (.s (.int .u8 8)),.d (.s (.int .u64 (id:Nat))),.d De,.d Df,.d De,.d Dn,.d De,.d Dn,.d Dn,.d Dn,.d Df,.d De,.d De,.d De,.d Df,.d Dn,.d Dn,.d Dn,(match i with|0=>.d D0|1=>.d (.s (.int .i64 cd))|_=>.d (.s (.int .i64 cd))),(match i with|0=>.d De|1=>.d De|_=>.d (.s (.string ⟨(tx).toArray⟩)))]])
  (fun i=>i≤2) (fun i=>2-i) 0 (Nat.zero_le _) rfl rfl (fun _ _=>Nat.zero_le _) (fun i _=>by rcases i with _|_|i<;>rfl) (fun i _=>by rcases i with _|_|i<;>rfl) ?_
 rintro i hi J hJ
 have hc:i=0∨i=1∨i=2:=by omega
 rcases hc with rfl|rfl|rfl
 ·clear hp
  (have kk1:=uN [13] t0;have go:=fun zT zs=>hJ 1 zT zs (by decide) (by decide);exact Wdg)
 ·clear hp
  (have kk1:=uN [13,10] t1;have go:=fun zT zs=>hJ 2 zT zs (by decide) (by decide);exact Wdg)
 ·clear hp hJ
  focus ((repeat' (first|refine G ?_|refine AW.ret ?_|(refine GC ?_ ?_<;>intro h<;>(try simp only [hsB] at h)<;>try exact xf)|(refine GL ?_ ?_<;>intro h<;>(try simp only [hsN] at h)<;>(try simp only [h])<;>(try simp only [hsB] at h)<;>try exact xf)|fail)))
  all_goals first|exact RetQ.r (xs:=[.a [.d (.s (.int .u8 8)),.d (.s (.int .u64 (id:Nat))),.d De,.d Df,.d De,.d Dn,.d De,.d Dn,.d Dn,.d Dn,.d Df,.d De,.d De,.d De,.d Df,.d Dn,.d Dn,.d Dn,.d (.s (.int .i64 cd)),.d (.s (.string ⟨(tx).toArray⟩))]]) 0 rfl (Nat.le_of_ble_eq_true rfl) rfl rfl ⟨rfl,rfl⟩|exact RetQ.fr 0|exact RetQ.fn 0|exact xg
theorem plain_21(m:Mg)(hb:m.small)(hk:m.kind=1):AC Tryz.prog 22 [iv .u8 2,mgV m] [] fun y σ=>y=mgV (m.pl 2)∧σ=[]:=by
 refine AC.wk Tryz.func22 ?_
 obtain ⟨knd,id,key,fnd,obj,old,ctx,mt,dd,vl,px,pg,rg,cd,tx⟩:=m
 simp only at hk
 subst hk
 have hp:=parts_21
 have t0:=over_Key ⟨1,id,key,fnd,obj,old,ctx,mt,dd,vl,px,pg,rg,cd,tx⟩ (.s (.int .u8 1)) (.s (.int .u64 (id:Nat))) De Df De Dn De Dn Dn Dn Df De De De Df Dn Dn Dn D0 De
 focus (have kk1:=uN [] hp;(repeat' (first|refine G ?_|refine AW.ret ?_|(refine GC ?_ ?_<;>intro h<;>(try simp only [hsB] at h)<;>try exact xf)|(refine GL ?_ ?_<;>intro h<;>(try simp only [hsN] at h)<;>(try simp only [h])<;>(try simp only [hsB] at h)<;>try exact xf)|fail));all_goals clear kk1)
 all_goals first|exact xg|skip
 refine AW.rounds [3,4,7,25,26,27] (fun i:Nat=>[(3,.p 0 0),(4,.p 1 0),(7,.p 13 0),(25,.b 12 0 1),(26,iv .i64 1),(27,iv .i64 (i:Nat))]) (fun i=>[.box 38 (mgC ⟨1,id,key,fnd,obj,old,ctx,mt,dd,vl,px,pg,rg,cd,tx⟩),.box 38 [.d (.s (.int .u8 0)),.d (.s (.int .u64 0)),.d De,.d Df,.d De,.d Dn,.d De,.d Dn,.d Dn,.d Dn,.d Df,.d De,.d De,.d De,.d Df,.d Dn,.d Dn,.d Dn,.d D0,.d De],qo29,.box 4 [bv true],qo22,qo12,qo26,qo16,qo30,.box 4 [bv false],qo23,qo7,qo12,.box 38 [.d (.s (.int .u8 1)),.d (.s (.int .u64 (id:Nat))),(match i with|0=>.d De|_=>.d (.s (.string ⟨(key).toArray⟩))),.d Df,.d De,.d Dn,.d De,.d Dn,.d Dn,.d Dn,.d Df,.d De,.d De,.d De,.d Df,.d Dn,.d Dn,.d Dn,.d D0,.d De]])
  (fun i=>i≤1) (fun i=>1-i) 0 (Nat.zero_le _) rfl rfl (fun _ _=>Nat.zero_le _) (fun i _=>by rcases i with _|i<;>rfl) (fun i _=>by rcases i with _|i<;>rfl) ?_
 rintro i hi J hJ
 have hc:i=0∨i=1:=by omega
 rcases hc with rfl|rfl
 ·clear hp
  (have kk1:=uN [13,4] t0;have go:=fun zT zs=>hJ 1 zT zs (by decide) (by decide);exact Wdg)
 ·clear hp hJ
  focus ((repeat' (first|refine G ?_|refine AW.ret ?_|(refine GC ?_ ?_<;>intro h<;>(try simp only [hsB] at h)<;>try exact xf)|(refine GL ?_ ?_<;>intro h<;>(try simp only [hsN] at h)<;>(try simp only [h])<;>(try simp only [hsB] at h)<;>try exact xf)|fail)))
  all_goals first|exact RetQ.r (xs:=[.a [.d (.s (.int .u8 1)),.d (.s (.int .u64 (id:Nat))),.d (.s (.string ⟨(key).toArray⟩)),.d Df,.d De,.d Dn,.d De,.d Dn,.d Dn,.d Dn,.d Df,.d De,.d De,.d De,.d Df,.d Dn,.d Dn,.d Dn,.d D0,.d De]]) 0 rfl (Nat.le_of_ble_eq_true rfl) rfl rfl ⟨rfl,rfl⟩|exact RetQ.fr 0|exact RetQ.fn 0|exact xg
theorem plain_22(m:Mg)(hb:m.small)(hk:m.kind=2):AC Tryz.prog 22 [iv .u8 2,mgV m] [] fun y σ=>y=mgV (m.pl 2)∧σ=[]:=by
 refine AC.wk Tryz.func22 ?_
 obtain ⟨knd,id,key,fnd,obj,old,ctx,mt,dd,vl,px,pg,rg,cd,tx⟩:=m
 simp only at hk
 subst hk
 have hp:=parts_22
 cases fnd with
 | true=>
  have t0:=over_Found ⟨2,id,key,true,obj,old,ctx,mt,dd,vl,px,pg,rg,cd,tx⟩ (.s (.int .u8 2)) (.s (.int .u64 (id:Nat))) De Df De Dn De Dn Dn Dn Df De De De Df Dn Dn Dn D0 De
  have t1:=over_found_object ⟨2,id,key,true,obj,old,ctx,mt,dd,vl,px,pg,rg,cd,tx⟩ (.s (.int .u8 2)) (.s (.int .u64 (id:Nat))) De (.s (.bool true)) De Dn De Dn Dn Dn Df De De De Df Dn Dn Dn D0 De rfl hb.2.2.2.1.1 hb.2.2.2.1.2
  focus (have kk1:=uN [] hp;(repeat' (first|refine G ?_|refine AW.ret ?_|(refine GC ?_ ?_<;>intro h<;>(try simp only [hsB] at h)<;>try exact xf)|(refine GL ?_ ?_<;>intro h<;>(try simp only [hsN] at h)<;>(try simp only [h])<;>(try simp only [hsB] at h)<;>try exact xf)|fail));all_goals clear kk1)
  all_goals first|exact xg|skip
  refine AW.rounds [3,4,7,25,26,27] (fun i:Nat=>[(3,.p 0 0),(4,.p 1 0),(7,.p 14 0),(25,.b 13 0 2),(26,iv .i64 2),(27,iv .i64 (i:Nat))]) (fun i=>[.box 38 (mgC ⟨2,id,key,true,obj,old,ctx,mt,dd,vl,px,pg,rg,cd,tx⟩),.box 38 [.d (.s (.int .u8 0)),.d (.s (.int .u64 0)),.d De,.d Df,.d De,.d Dn,.d De,.d Dn,.d Dn,.d Dn,.d Df,.d De,.d De,.d De,.d Df,.d Dn,.d Dn,.d Dn,.d D0,.d De],qo29,.box 4 [bv true],qo22,qo12,qo26,qo16,qo30,.box 4 [bv false],qo23,qo7,qo17,qo5,.box 38 [.d (.s (.int .u8 2)),.d (.s (.int .u64 (id:Nat))),.d De,(match i with|0=>.d Df|1=>.d (.s (.bool true))|_=>.d (.s (.bool true))),(match i with|0=>.d De|1=>.d De|_=>.d (.s (.string ⟨(obj.key).toArray⟩))),(match i with|0=>.d Dn|1=>.d Dn|_=>.d (.l obj.sibs.length (sbsD obj.sibs))),.d De,.d Dn,.d Dn,.d Dn,.d Df,.d De,.d De,.d De,.d Df,.d Dn,.d Dn,.d Dn,.d D0,.d De]])
   (fun i=>i≤2) (fun i=>2-i) 0 (Nat.zero_le _) rfl rfl (fun _ _=>Nat.zero_le _) (fun i _=>by rcases i with _|_|i<;>rfl) (fun i _=>by rcases i with _|_|i<;>rfl) ?_
  rintro i hi J hJ
  have hc:i=0∨i=1∨i=2:=by omega
  rcases hc with rfl|rfl|rfl
  ·clear hp
   (have kk1:=uN [14,6] t0;have go:=fun zT zs=>hJ 1 zT zs (by decide) (by decide);exact Wdg)
  ·clear hp
   (have kk1:=uN [14,12] t1;have go:=fun zT zs=>hJ 2 zT zs (by decide) (by decide);exact Wdg)
  ·clear hp hJ
   focus ((repeat' (first|refine G ?_|refine AW.ret ?_|(refine GC ?_ ?_<;>intro h<;>(try simp only [hsB] at h)<;>try exact xf)|(refine GL ?_ ?_<;>intro h<;>(try simp only [hsN] at h)<;>(try simp only [h])<;>(try simp only [hsB] at h)<;>try exact xf)|fail)))
   all_goals first|exact RetQ.r (xs:=[.a [.d (.s (.int .u8 2)),.d (.s (.int .u64 (id:Nat))),.d De,.d (.s (.bool true)),.d (.s (.string ⟨(obj.key).toArray⟩)),.d (.l obj.sibs.length (sbsD obj.sibs)),.d De,.d Dn,.d Dn,.d Dn,.d Df,.d De,.d De,.d De,.d Df,.d Dn,.d Dn,.d Dn,.d D0,.d De]]) 0 rfl (Nat.le_of_ble_eq_true rfl) rfl rfl ⟨rfl,rfl⟩|exact RetQ.fr 0|exact RetQ.fn 0|exact xg
 | false=>
  have t0:=over_Found ⟨2,id,key,false,obj,old,ctx,mt,dd,vl,px,pg,rg,cd,tx⟩ (.s (.int .u8 2)) (.s (.int .u64 (id:Nat))) De Df De Dn De Dn Dn Dn Df De De De Df Dn Dn Dn D0 De
  have t1:=overn_found_object ⟨2,id,key,false,obj,old,ctx,mt,dd,vl,px,pg,rg,cd,tx⟩ (.s (.int .u8 2)) (.s (.int .u64 (id:Nat))) De Df De Dn De Dn Dn Dn Df De De De Df Dn Dn Dn D0 De rfl
  focus (have kk1:=uN [] hp;(repeat' (first|refine G ?_|refine AW.ret ?_|(refine GC ?_ ?_<;>intro h<;>(try simp only [hsB] at h)<;>try exact xf)|(refine GL ?_ ?_<;>intro h<;>(try simp only [hsN] at h)<;>(try simp only [h])<;>(try simp only [hsB] at h)<;>try exact xf)|fail));all_goals clear kk1)
  all_goals first|exact xg|skip
  refine AW.rounds [3,4,7,25,26,27] (fun i:Nat=>[(3,.p 0 0),(4,.p 1 0),(7,.p 14 0),(25,.b 13 0 2),(26,iv .i64 2),(27,iv .i64 (i:Nat))]) (fun i=>[.box 38 (mgC ⟨2,id,key,false,obj,old,ctx,mt,dd,vl,px,pg,rg,cd,tx⟩),.box 38 [.d (.s (.int .u8 0)),.d (.s (.int .u64 0)),.d De,.d Df,.d De,.d Dn,.d De,.d Dn,.d Dn,.d Dn,.d Df,.d De,.d De,.d De,.d Df,.d Dn,.d Dn,.d Dn,.d D0,.d De],qo29,.box 4 [bv true],qo22,qo12,qo26,qo16,qo30,.box 4 [bv false],qo23,qo7,qo17,qo5,.box 38 [.d (.s (.int .u8 2)),.d (.s (.int .u64 (id:Nat))),.d De,.d Df,.d De,.d Dn,.d De,.d Dn,.d Dn,.d Dn,.d Df,.d De,.d De,.d De,.d Df,.d Dn,.d Dn,.d Dn,.d D0,.d De]])
   (fun i=>i≤2) (fun i=>2-i) 0 (Nat.zero_le _) rfl rfl (fun _ _=>Nat.zero_le _) (fun i _=>by rcases i with _|_|i<;>rfl) (fun i _=>by rcases i with _|_|i<;>rfl) ?_
  rintro i hi J hJ
  have hc:i=0∨i=1∨i=2:=by omega
  rcases hc with rfl|rfl|rfl
  ·clear hp
   (have kk1:=uN [14,6] t0;have go:=fun zT zs=>hJ 1 zT zs (by decide) (by decide);exact Wdg)
  ·clear hp
   (have kk1:=uN [14,12] t1;have go:=fun zT zs=>hJ 2 zT zs (by decide) (by decide);exact Wdg)
  ·clear hp hJ
   focus ((repeat' (first|refine G ?_|refine AW.ret ?_|(refine GC ?_ ?_<;>intro h<;>(try simp only [hsB] at h)<;>try exact xf)|(refine GL ?_ ?_<;>intro h<;>(try simp only [hsN] at h)<;>(try simp only [h])<;>(try simp only [hsB] at h)<;>try exact xf)|fail)))
   all_goals first|exact RetQ.r (xs:=[.a [.d (.s (.int .u8 2)),.d (.s (.int .u64 (id:Nat))),.d De,.d Df,.d De,.d Dn,.d De,.d Dn,.d Dn,.d Dn,.d Df,.d De,.d De,.d De,.d Df,.d Dn,.d Dn,.d Dn,.d D0,.d De]]) 0 rfl (Nat.le_of_ble_eq_true rfl) rfl rfl ⟨rfl,rfl⟩|exact RetQ.fr 0|exact RetQ.fn 0|exact xg
theorem plain_23(m:Mg)(hb:m.small)(hk:m.kind=3):AC Tryz.prog 22 [iv .u8 2,mgV m] [] fun y σ=>y=mgV (m.pl 2)∧σ=[]:=by
 refine AC.wk Tryz.func22 ?_
 obtain ⟨knd,id,key,fnd,obj,old,ctx,mt,dd,vl,px,pg,rg,cd,tx⟩:=m
 simp only at hk
 subst hk
 have hp:=parts_23
 have t0:=over_Key ⟨3,id,key,fnd,obj,old,ctx,mt,dd,vl,px,pg,rg,cd,tx⟩ (.s (.int .u8 3)) (.s (.int .u64 (id:Nat))) De Df De Dn De Dn Dn Dn Df De De De Df Dn Dn Dn D0 De
 have t1:=over_ctx ⟨3,id,key,fnd,obj,old,ctx,mt,dd,vl,px,pg,rg,cd,tx⟩ (.s (.int .u8 3)) (.s (.int .u64 (id:Nat))) (.s (.string ⟨(key).toArray⟩)) Df De Dn De Dn Dn Dn Df De De De Df Dn Dn Dn D0 De hb.1
 have t2:=over_meta ⟨3,id,key,fnd,obj,old,ctx,mt,dd,vl,px,pg,rg,cd,tx⟩ (.s (.int .u8 3)) (.s (.int .u64 (id:Nat))) (.s (.string ⟨(key).toArray⟩)) Df De Dn De Dn (.l ctx.length (vecD ctx)) Dn Df De De De Df Dn Dn Dn D0 De hb.2.1
 have t3:=over_Dead ⟨3,id,key,fnd,obj,old,ctx,mt,dd,vl,px,pg,rg,cd,tx⟩ (.s (.int .u8 3)) (.s (.int .u64 (id:Nat))) (.s (.string ⟨(key).toArray⟩)) Df De Dn De Dn (.l ctx.length (vecD ctx)) (.l mt.length (prsD mt)) Df De De De Df Dn Dn Dn D0 De
 have t4:=over_Value ⟨3,id,key,fnd,obj,old,ctx,mt,dd,vl,px,pg,rg,cd,tx⟩ (.s (.int .u8 3)) (.s (.int .u64 (id:Nat))) (.s (.string ⟨(key).toArray⟩)) Df De Dn De Dn (.l ctx.length (vecD ctx)) (.l mt.length (prsD mt)) (.s (.bool dd)) De De De Df Dn Dn Dn D0 De
 focus (have kk1:=uN [] hp;(repeat' (first|refine G ?_|refine AW.ret ?_|(refine GC ?_ ?_<;>intro h<;>(try simp only [hsB] at h)<;>try exact xf)|(refine GL ?_ ?_<;>intro h<;>(try simp only [hsN] at h)<;>(try simp only [h])<;>(try simp only [hsB] at h)<;>try exact xf)|fail));all_goals clear kk1)
 all_goals first|exact xg|skip
 refine AW.rounds [3,4,7,25,26,27] (fun i:Nat=>[(3,.p 0 0),(4,.p 1 0),(7,.p 18 0),(25,.b 17 0 5),(26,iv .i64 5),(27,iv .i64 (i:Nat))]) (fun i=>[.box 38 (mgC ⟨3,id,key,fnd,obj,old,ctx,mt,dd,vl,px,pg,rg,cd,tx⟩),.box 38 [.d (.s (.int .u8 0)),.d (.s (.int .u64 0)),.d De,.d Df,.d De,.d Dn,.d De,.d Dn,.d Dn,.d Dn,.d Df,.d De,.d De,.d De,.d Df,.d Dn,.d Dn,.d Dn,.d D0,.d De],qo29,.box 4 [bv true],qo22,qo12,qo26,qo16,qo30,.box 4 [bv false],qo23,qo7,qo27,.box 86 [.f (.func 175) [] [],.f (.func 176) [] [.p 12 0],.f (.func 178) [] [.p 12 0],.f (.func 179) [] [.p 12 0]],qo28,.box 4 [bv false],qo24,.box 86 [.f (.func 168) [] [.p 3 0,.p 4 0,.p 2 0],.f (.func 170) [] [.p 2 0,.p 4 0],.f (.func 172) [] [.p 2 0,.p 4 0,.p 3 0],.f (.func 174) [] [.p 4 0],.f (.func 206) [] [],.f (.func 208) [] [],.f (.func 210) [] [],.f (.func 211) [] [],.f (.func 212) [] [],.f (.func 214) [] [],.f (.func 216) [] [],.f (.func 217) [] [],.f (.func 175) [] [],.f (.func 176) [] [.p 12 0],.f (.func 178) [] [.p 12 0],.f (.func 179) [] [.p 12 0],.f (.func 168) [] [.p 15 0,.p 16 0,.p 14 0],.f (.func 170) [] [.p 14 0,.p 16 0],.f (.func 172) [] [.p 14 0,.p 16 0,.p 15 0],.f (.func 174) [] [.p 16 0]],.box 38 [.d (.s (.int .u8 3)),.d (.s (.int .u64 (id:Nat))),(match i with|0=>.d De|1=>.d (.s (.string ⟨(key).toArray⟩))|2=>.d (.s (.string ⟨(key).toArray⟩))|3=>.d (.s (.string ⟨(key).toArray⟩))|4=>.d (.s (.string ⟨(key).toArray⟩))|_=>.d (.s (.string ⟨(key).toArray⟩))),.d Df,.d De,.d Dn,.d De,.d Dn,(match i with|0=>.d Dn|1=>.d Dn|2=>.d (.l ctx.length (vecD ctx))|3=>.d (.l ctx.length (vecD ctx))|4=>.d (.l ctx.length (vecD ctx))|_=>.d (.l ctx.length (vecD ctx))),(match i with|0=>.d Dn|1=>.d Dn|2=>.d Dn|3=>.d (.l mt.length (prsD mt))|4=>.d (.l mt.length (prsD mt))|_=>.d (.l mt.length (prsD mt))),(match i with|0=>.d Df|1=>.d Df|2=>.d Df|3=>.d Df|4=>.d (.s (.bool dd))|_=>.d (.s (.bool dd))),(match i with|0=>.d De|1=>.d De|2=>.d De|3=>.d De|4=>.d De|_=>.d (.s (.string ⟨(vl).toArray⟩))),.d De,.d De,.d Df,.d Dn,.d Dn,.d Dn,.d D0,.d De]])
  (fun i=>i≤5) (fun i=>5-i) 0 (Nat.zero_le _) rfl rfl (fun _ _=>Nat.zero_le _) (fun i _=>by rcases i with _|_|_|_|_|i<;>rfl) (fun i _=>by rcases i with _|_|_|_|_|i<;>rfl) ?_
 rintro i hi J hJ
 have hc:i=0∨i=1∨i=2∨i=3∨i=4∨i=5:=by omega
 rcases hc with rfl|rfl|rfl|rfl|rfl|rfl
 ·clear hp
  (have kk1:=uN [18,4] t0;have go:=fun zT zs=>hJ 1 zT zs (by decide) (by decide);exact Wdg)
 ·clear hp
  (have kk1:=uN [18] t1;have go:=fun zT zs=>hJ 2 zT zs (by decide) (by decide);exact Wdg)
 ·clear hp
  (have kk1:=uN [18] t2;have go:=fun zT zs=>hJ 3 zT zs (by decide) (by decide);exact Wdg)
 ·clear hp
  (have kk1:=uN [18,12] t3;have go:=fun zT zs=>hJ 4 zT zs (by decide) (by decide);exact Wdg)
 ·clear hp
  (have kk1:=uN [18,16] t4;have go:=fun zT zs=>hJ 5 zT zs (by decide) (by decide);exact Wdg)
 ·clear hp hJ
  focus ((repeat' (first|refine G ?_|refine AW.ret ?_|(refine GC ?_ ?_<;>intro h<;>(try simp only [hsB] at h)<;>try exact xf)|(refine GL ?_ ?_<;>intro h<;>(try simp only [hsN] at h)<;>(try simp only [h])<;>(try simp only [hsB] at h)<;>try exact xf)|fail)))
  all_goals first|exact RetQ.r (xs:=[.a [.d (.s (.int .u8 3)),.d (.s (.int .u64 (id:Nat))),.d (.s (.string ⟨(key).toArray⟩)),.d Df,.d De,.d Dn,.d De,.d Dn,.d (.l ctx.length (vecD ctx)),.d (.l mt.length (prsD mt)),.d (.s (.bool dd)),.d (.s (.string ⟨(vl).toArray⟩)),.d De,.d De,.d Df,.d Dn,.d Dn,.d Dn,.d D0,.d De]]) 0 rfl (Nat.le_of_ble_eq_true rfl) rfl rfl ⟨rfl,rfl⟩|exact RetQ.fr 0|exact RetQ.fn 0|exact xg
theorem plain_24(m:Mg)(hb:m.small)(hk:m.kind=4):AC Tryz.prog 22 [iv .u8 2,mgV m] [] fun y σ=>y=mgV (m.pl 2)∧σ=[]:=by
 refine AC.wk Tryz.func22 ?_
 obtain ⟨knd,id,key,fnd,obj,old,ctx,mt,dd,vl,px,pg,rg,cd,tx⟩:=m
 simp only at hk
 subst hk
 have hp:=parts_24
 have t0:=over_ctx ⟨4,id,key,fnd,obj,old,ctx,mt,dd,vl,px,pg,rg,cd,tx⟩ (.s (.int .u8 4)) (.s (.int .u64 (id:Nat))) De Df De Dn De Dn Dn Dn Df De De De Df Dn Dn Dn D0 De hb.1
 focus (have kk1:=uN [] hp;(repeat' (first|refine G ?_|refine AW.ret ?_|(refine GC ?_ ?_<;>intro h<;>(try simp only [hsB] at h)<;>try exact xf)|(refine GL ?_ ?_<;>intro h<;>(try simp only [hsN] at h)<;>(try simp only [h])<;>(try simp only [hsB] at h)<;>try exact xf)|fail));all_goals clear kk1)
 all_goals first|exact xg|skip
 refine AW.rounds [3,4,7,25,26,27] (fun i:Nat=>[(3,.p 0 0),(4,.p 1 0),(7,.p 13 0),(25,.b 12 0 1),(26,iv .i64 1),(27,iv .i64 (i:Nat))]) (fun i=>[.box 38 (mgC ⟨4,id,key,fnd,obj,old,ctx,mt,dd,vl,px,pg,rg,cd,tx⟩),.box 38 [.d (.s (.int .u8 0)),.d (.s (.int .u64 0)),.d De,.d Df,.d De,.d Dn,.d De,.d Dn,.d Dn,.d Dn,.d Df,.d De,.d De,.d De,.d Df,.d Dn,.d Dn,.d Dn,.d D0,.d De],qo29,.box 4 [bv true],qo22,qo12,qo26,qo16,qo30,.box 4 [bv false],qo23,qo7,qo19,.box 38 [.d (.s (.int .u8 4)),.d (.s (.int .u64 (id:Nat))),.d De,.d Df,.d De,.d Dn,.d De,.d Dn,(match i with|0=>.d Dn|_=>.d (.l ctx.length (vecD ctx))),.d Dn,.d Df,.d De,.d De,.d De,.d Df,.d Dn,.d Dn,.d Dn,.d D0,.d De]])
  (fun i=>i≤1) (fun i=>1-i) 0 (Nat.zero_le _) rfl rfl (fun _ _=>Nat.zero_le _) (fun i _=>by rcases i with _|i<;>rfl) (fun i _=>by rcases i with _|i<;>rfl) ?_
 rintro i hi J hJ
 have hc:i=0∨i=1:=by omega
 rcases hc with rfl|rfl
 ·clear hp
  (have kk1:=uN [13] t0;have go:=fun zT zs=>hJ 1 zT zs (by decide) (by decide);exact Wdg)
 ·clear hp hJ
  focus ((repeat' (first|refine G ?_|refine AW.ret ?_|(refine GC ?_ ?_<;>intro h<;>(try simp only [hsB] at h)<;>try exact xf)|(refine GL ?_ ?_<;>intro h<;>(try simp only [hsN] at h)<;>(try simp only [h])<;>(try simp only [hsB] at h)<;>try exact xf)|fail)))
  all_goals first|exact RetQ.r (xs:=[.a [.d (.s (.int .u8 4)),.d (.s (.int .u64 (id:Nat))),.d De,.d Df,.d De,.d Dn,.d De,.d Dn,.d (.l ctx.length (vecD ctx)),.d Dn,.d Df,.d De,.d De,.d De,.d Df,.d Dn,.d Dn,.d Dn,.d D0,.d De]]) 0 rfl (Nat.le_of_ble_eq_true rfl) rfl rfl ⟨rfl,rfl⟩|exact RetQ.fr 0|exact RetQ.fn 0|exact xg
theorem plain_25(m:Mg)(hb:m.small)(hk:m.kind=5):AC Tryz.prog 22 [iv .u8 2,mgV m] [] fun y σ=>y=mgV (m.pl 2)∧σ=[]:=by
 refine AC.wk Tryz.func22 ?_
 obtain ⟨knd,id,key,fnd,obj,old,ctx,mt,dd,vl,px,pg,rg,cd,tx⟩:=m
 simp only at hk
 subst hk
 have hp:=parts_25
 have t0:=over_Prefix ⟨5,id,key,fnd,obj,old,ctx,mt,dd,vl,px,pg,rg,cd,tx⟩ (.s (.int .u8 5)) (.s (.int .u64 (id:Nat))) De Df De Dn De Dn Dn Dn Df De De De Df Dn Dn Dn D0 De
 focus (have kk1:=uN [] hp;(repeat' (first|refine G ?_|refine AW.ret ?_|(refine GC ?_ ?_<;>intro h<;>(try simp only [hsB] at h)<;>try exact xf)|(refine GL ?_ ?_<;>intro h<;>(try simp only [hsN] at h)<;>(try simp only [h])<;>(try simp only [hsB] at h)<;>try exact xf)|fail));all_goals clear kk1)
 all_goals first|exact xg|skip
 refine AW.rounds [3,4,7,25,26,27] (fun i:Nat=>[(3,.p 0 0),(4,.p 1 0),(7,.p 16 0),(25,.b 15 0 1),(26,iv .i64 1),(27,iv .i64 (i:Nat))]) (fun i=>[.box 38 (mgC ⟨5,id,key,fnd,obj,old,ctx,mt,dd,vl,px,pg,rg,cd,tx⟩),.box 38 [.d (.s (.int .u8 0)),.d (.s (.int .u64 0)),.d De,.d Df,.d De,.d Dn,.d De,.d Dn,.d Dn,.d Dn,.d Df,.d De,.d De,.d De,.d Df,.d Dn,.d Dn,.d Dn,.d D0,.d De],qo29,.box 4 [bv true],qo22,qo12,qo26,qo16,qo30,.box 4 [bv false],qo23,qo7,qo31,.box 4 [bv false],qo25,.box 86 [.f (.func 168) [] [.p 13 0,.p 14 0,.p 12 0],.f (.func 170) [] [.p 12 0,.p 14 0],.f (.func 172) [] [.p 12 0,.p 14 0,.p 13 0],.f (.func 174) [] [.p 14 0]],.box 38 [.d (.s (.int .u8 5)),.d (.s (.int .u64 (id:Nat))),.d De,.d Df,.d De,.d Dn,.d De,.d Dn,.d Dn,.d Dn,.d Df,.d De,(match i with|0=>.d De|_=>.d (.s (.string ⟨(px).toArray⟩))),.d De,.d Df,.d Dn,.d Dn,.d Dn,.d D0,.d De]])
  (fun i=>i≤1) (fun i=>1-i) 0 (Nat.zero_le _) rfl rfl (fun _ _=>Nat.zero_le _) (fun i _=>by rcases i with _|i<;>rfl) (fun i _=>by rcases i with _|i<;>rfl) ?_
 rintro i hi J hJ
 have hc:i=0∨i=1:=by omega
 rcases hc with rfl|rfl
 ·clear hp
  (have kk1:=uN [16,14] t0;have go:=fun zT zs=>hJ 1 zT zs (by decide) (by decide);exact Wdg)
 ·clear hp hJ
  focus ((repeat' (first|refine G ?_|refine AW.ret ?_|(refine GC ?_ ?_<;>intro h<;>(try simp only [hsB] at h)<;>try exact xf)|(refine GL ?_ ?_<;>intro h<;>(try simp only [hsN] at h)<;>(try simp only [h])<;>(try simp only [hsB] at h)<;>try exact xf)|fail)))
  all_goals first|exact RetQ.r (xs:=[.a [.d (.s (.int .u8 5)),.d (.s (.int .u64 (id:Nat))),.d De,.d Df,.d De,.d Dn,.d De,.d Dn,.d Dn,.d Dn,.d Df,.d De,.d (.s (.string ⟨(px).toArray⟩)),.d De,.d Df,.d Dn,.d Dn,.d Dn,.d D0,.d De]]) 0 rfl (Nat.le_of_ble_eq_true rfl) rfl rfl ⟨rfl,rfl⟩|exact RetQ.fr 0|exact RetQ.fn 0|exact xg
theorem plain_26(m:Mg)(hb:m.small)(hk:m.kind=6):AC Tryz.prog 22 [iv .u8 2,mgV m] [] fun y σ=>y=mgV (m.pl 2)∧σ=[]:=by
 refine AC.wk Tryz.func22 ?_
 obtain ⟨knd,id,key,fnd,obj,old,ctx,mt,dd,vl,px,pg,rg,cd,tx⟩:=m
 simp only at hk
 subst hk
 have hp:=parts_26
 have t0:=over_page ⟨6,id,key,fnd,obj,old,ctx,mt,dd,vl,px,pg,rg,cd,tx⟩ (.s (.int .u8 6)) (.s (.int .u64 (id:Nat))) De Df De Dn De Dn Dn Dn Df De De De Df Dn Dn Dn D0 De hb.2.2.1.1 hb.2.2.1.2
 focus (have kk1:=uN [] hp;(repeat' (first|refine G ?_|refine AW.ret ?_|(refine GC ?_ ?_<;>intro h<;>(try simp only [hsB] at h)<;>try exact xf)|(refine GL ?_ ?_<;>intro h<;>(try simp only [hsN] at h)<;>(try simp only [h])<;>(try simp only [hsB] at h)<;>try exact xf)|fail));all_goals clear kk1)
 all_goals first|exact xg|skip
 refine AW.rounds [3,4,7,25,26,27] (fun i:Nat=>[(3,.p 0 0),(4,.p 1 0),(7,.p 13 0),(25,.b 12 0 1),(26,iv .i64 1),(27,iv .i64 (i:Nat))]) (fun i=>[.box 38 (mgC ⟨6,id,key,fnd,obj,old,ctx,mt,dd,vl,px,pg,rg,cd,tx⟩),.box 38 [.d (.s (.int .u8 0)),.d (.s (.int .u64 0)),.d De,.d Df,.d De,.d Dn,.d De,.d Dn,.d Dn,.d Dn,.d Df,.d De,.d De,.d De,.d Df,.d Dn,.d Dn,.d Dn,.d D0,.d De],qo29,.box 4 [bv true],qo22,qo12,qo26,qo16,qo30,.box 4 [bv false],qo23,qo7,qo20,.box 38 [.d (.s (.int .u8 6)),.d (.s (.int .u64 (id:Nat))),.d De,.d Df,.d De,.d Dn,.d De,.d Dn,.d Dn,.d Dn,.d Df,.d De,.d De,(match i with|0=>.d De|_=>.d (.s (.string ⟨(pg.pre).toArray⟩))),(match i with|0=>.d Df|_=>.d (.s (.bool pg.leaf))),(match i with|0=>.d Dn|_=>.d (.l pg.slots.length (slsD pg.slots))),(match i with|0=>.d Dn|_=>.d (.l pg.items.length (itsD pg.items))),.d Dn,.d D0,.d De]])
  (fun i=>i≤1) (fun i=>1-i) 0 (Nat.zero_le _) rfl rfl (fun _ _=>Nat.zero_le _) (fun i _=>by rcases i with _|i<;>rfl) (fun i _=>by rcases i with _|i<;>rfl) ?_
 rintro i hi J hJ
 have hc:i=0∨i=1:=by omega
 rcases hc with rfl|rfl
 ·clear hp
  (have kk1:=uN [13] t0;have go:=fun zT zs=>hJ 1 zT zs (by decide) (by decide);exact Wdg)
 ·clear hp hJ
  focus ((repeat' (first|refine G ?_|refine AW.ret ?_|(refine GC ?_ ?_<;>intro h<;>(try simp only [hsB] at h)<;>try exact xf)|(refine GL ?_ ?_<;>intro h<;>(try simp only [hsN] at h)<;>(try simp only [h])<;>(try simp only [hsB] at h)<;>try exact xf)|fail)))
  all_goals first|exact RetQ.r (xs:=[.a [.d (.s (.int .u8 6)),.d (.s (.int .u64 (id:Nat))),.d De,.d Df,.d De,.d Dn,.d De,.d Dn,.d Dn,.d Dn,.d Df,.d De,.d De,.d (.s (.string ⟨(pg.pre).toArray⟩)),.d (.s (.bool pg.leaf)),.d (.l pg.slots.length (slsD pg.slots)),.d (.l pg.items.length (itsD pg.items)),.d Dn,.d D0,.d De]]) 0 rfl (Nat.le_of_ble_eq_true rfl) rfl rfl ⟨rfl,rfl⟩|exact RetQ.fr 0|exact RetQ.fn 0|exact xg
theorem plain_27(m:Mg)(hb:m.small)(hk:m.kind=7):AC Tryz.prog 22 [iv .u8 2,mgV m] [] fun y σ=>y=mgV (m.pl 2)∧σ=[]:=by
 refine AC.wk Tryz.func22 ?_
 obtain ⟨knd,id,key,fnd,obj,old,ctx,mt,dd,vl,px,pg,rg,cd,tx⟩:=m
 simp only at hk
 subst hk
 have hp:=parts_27
 have t0:=over_ring ⟨7,id,key,fnd,obj,old,ctx,mt,dd,vl,px,pg,rg,cd,tx⟩ (.s (.int .u8 7)) (.s (.int .u64 (id:Nat))) De Df De Dn De Dn Dn Dn Df De De De Df Dn Dn D0 De hb.2.2.2.2.2.1 hb.2.2.2.2.2.2
 focus (have kk1:=uN [] hp;(repeat' (first|refine G ?_|refine AW.ret ?_|(refine GC ?_ ?_<;>intro h<;>(try simp only [hsB] at h)<;>try exact xf)|(refine GL ?_ ?_<;>intro h<;>(try simp only [hsN] at h)<;>(try simp only [h])<;>(try simp only [hsB] at h)<;>try exact xf)|fail));all_goals clear kk1)
 all_goals first|exact xg|skip
 refine AW.rounds [3,4,7,25,26,27] (fun i:Nat=>[(3,.p 0 0),(4,.p 1 0),(7,.p 13 0),(25,.b 12 0 1),(26,iv .i64 1),(27,iv .i64 (i:Nat))]) (fun i=>[.box 38 (mgC ⟨7,id,key,fnd,obj,old,ctx,mt,dd,vl,px,pg,rg,cd,tx⟩),.box 38 [.d (.s (.int .u8 0)),.d (.s (.int .u64 0)),.d De,.d Df,.d De,.d Dn,.d De,.d Dn,.d Dn,.d Dn,.d Df,.d De,.d De,.d De,.d Df,.d Dn,.d Dn,.d Dn,.d D0,.d De],qo29,.box 4 [bv true],qo22,qo12,qo26,qo16,qo30,.box 4 [bv false],qo23,qo7,qo21,.box 38 [.d (.s (.int .u8 7)),.d (.s (.int .u64 (id:Nat))),.d De,.d Df,.d De,.d Dn,.d De,.d Dn,.d Dn,.d Dn,.d Df,.d De,.d De,.d De,.d Df,.d Dn,.d Dn,(match i with|0=>.d Dn|_=>.o 16 rg.length),.d D0,.d De]]++(match i with|0=>[]|_=>[qo21,.box 38 (mgC ⟨7,id,key,fnd,obj,old,ctx,mt,dd,vl,px,pg,rg,cd,tx⟩),.row 183 4 rg.length (ringD rg)]))
  (fun i=>i≤1) (fun i=>1-i) 0 (Nat.zero_le _) rfl rfl (fun _ _=>Nat.zero_le _) (fun i _=>by rcases i with _|i<;>rfl) (fun i _=>by rcases i with _|i<;>rfl) ?_
 rintro i hi J hJ
 have hc:i=0∨i=1:=by omega
 rcases hc with rfl|rfl
 ·clear hp
  (have kk1:=uN [13] t0;have go:=fun zT zs=>hJ 1 zT zs (by decide) (by decide);exact Wdg)
 ·clear hp hJ
  focus ((repeat' (first|refine G ?_|refine AW.ret ?_|(refine GC ?_ ?_<;>intro h<;>(try simp only [hsB] at h)<;>try exact xf)|(refine GL ?_ ?_<;>intro h<;>(try simp only [hsN] at h)<;>(try simp only [h])<;>(try simp only [hsB] at h)<;>try exact xf)|fail)))
  all_goals first|(((all_goals first|refine RetQ.yr 0 (xs:=[.a [.d (.s (.int .u8 7)),.d (.s (.int .u64 (id:Nat))),.d De,.d Df,.d De,.d Dn,.d De,.d Dn,.d Dn,.d Dn,.d Df,.d De,.d De,.d De,.d Df,.d Dn,.d Dn,.o 16 rg.length,.d D0,.d De]]) ⟨?_,?_⟩|refine RetQ.yn 0 (xs:=[.a [.d (.s (.int .u8 7)),.d (.s (.int .u64 (id:Nat))),.d De,.d Df,.d De,.d Dn,.d De,.d Dn,.d Dn,.d Dn,.d Df,.d De,.d De,.d De,.d Df,.d Dn,.d Dn,.o 16 rg.length,.d D0,.d De]]) ⟨?_,?_⟩);(all_goals exact fx));done)|exact RetQ.fr 0|exact RetQ.fn 0|exact xg
theorem plain_28(m:Mg)(hb:m.small)(hk:m.kind=8):AC Tryz.prog 22 [iv .u8 2,mgV m] [] fun y σ=>y=mgV (m.pl 2)∧σ=[]:=by
 refine AC.wk Tryz.func22 ?_
 obtain ⟨knd,id,key,fnd,obj,old,ctx,mt,dd,vl,px,pg,rg,cd,tx⟩:=m
 simp only at hk
 subst hk
 have hp:=parts_28
 have t0:=over_code ⟨8,id,key,fnd,obj,old,ctx,mt,dd,vl,px,pg,rg,cd,tx⟩ (.s (.int .u8 8)) (.s (.int .u64 (id:Nat))) De Df De Dn De Dn Dn Dn Df De De De Df Dn Dn Dn D0 De
 have t1:=over_Text ⟨8,id,key,fnd,obj,old,ctx,mt,dd,vl,px,pg,rg,cd,tx⟩ (.s (.int .u8 8)) (.s (.int .u64 (id:Nat))) De Df De Dn De Dn Dn Dn Df De De De Df Dn Dn Dn (.s (.int .i64 cd)) De
 focus (have kk1:=uN [] hp;(repeat' (first|refine G ?_|refine AW.ret ?_|(refine GC ?_ ?_<;>intro h<;>(try simp only [hsB] at h)<;>try exact xf)|(refine GL ?_ ?_<;>intro h<;>(try simp only [hsN] at h)<;>(try simp only [h])<;>(try simp only [hsB] at h)<;>try exact xf)|fail));all_goals clear kk1)
 all_goals first|exact xg|skip
 refine AW.rounds [3,4,7,25,26,27] (fun i:Nat=>[(3,.p 0 0),(4,.p 1 0),(7,.p 13 0),(25,.b 12 0 2),(26,iv .i64 2),(27,iv .i64 (i:Nat))]) (fun i=>[.box 38 (mgC ⟨8,id,key,fnd,obj,old,ctx,mt,dd,vl,px,pg,rg,cd,tx⟩),.box 38 [.d (.s (.int .u8 0)),.d (.s (.int .u64 0)),.d De,.d Df,.d De,.d Dn,.d De,.d Dn,.d Dn,.d Dn,.d Df,.d De,.d De,.d De,.d Df,.d Dn,.d Dn,.d Dn,.d D0,.d De],qo29,.box 4 [bv true],qo22,qo12,qo26,qo16,qo30,.box 4 [bv false],qo23,qo7,.box 86 [.f (.func 201) [] [],.f (.func 202) [] [],.f (.func 204) [] [],.f (.func 205) [] [],.f (.func 168) [] [.p 9 0,.p 10 0,.p 8 0],.f (.func 170) [] [.p 8 0,.p 10 0],.f (.func 172) [] [.p 8 0,.p 10 0,.p 9 0],.f (.func 174) [] [.p 10 0]],.box 38 [.d (.s (.int .u8 8)),.d (.s (.int .u64 (id:Nat))),.d De,.d Df,.d De,.d Dn,.d De,.d Dn,.d Dn,.d Dn,.d Df,.d De,.d De,.d De,.d Df,.d Dn,.d Dn,.d Dn,(match i with|0=>.d D0|1=>.d (.s (.int .i64 cd))|_=>.d (.s (.int .i64 cd))),(match i with|0=>.d De|1=>.d De|_=>.d (.s (.string ⟨(tx).toArray⟩)))]])
  (fun i=>i≤2) (fun i=>2-i) 0 (Nat.zero_le _) rfl rfl (fun _ _=>Nat.zero_le _) (fun i _=>by rcases i with _|_|i<;>rfl) (fun i _=>by rcases i with _|_|i<;>rfl) ?_
 rintro i hi J hJ
 have hc:i=0∨i=1∨i=2:=by omega
 rcases hc with rfl|rfl|rfl
 ·clear hp
  (have kk1:=uN [13] t0;have go:=fun zT zs=>hJ 1 zT zs (by decide) (by decide);exact Wdg)
 ·clear hp
  (have kk1:=uN [13,10] t1;have go:=fun zT zs=>hJ 2 zT zs (by decide) (by decide);exact Wdg)
 ·clear hp hJ
  focus ((repeat' (first|refine G ?_|refine AW.ret ?_|(refine GC ?_ ?_<;>intro h<;>(try simp only [hsB] at h)<;>try exact xf)|(refine GL ?_ ?_<;>intro h<;>(try simp only [hsN] at h)<;>(try simp only [h])<;>(try simp only [hsB] at h)<;>try exact xf)|fail)))
  all_goals first|exact RetQ.r (xs:=[.a [.d (.s (.int .u8 8)),.d (.s (.int .u64 (id:Nat))),.d De,.d Df,.d De,.d Dn,.d De,.d Dn,.d Dn,.d Dn,.d Df,.d De,.d De,.d De,.d Df,.d Dn,.d Dn,.d Dn,.d (.s (.int .i64 cd)),.d (.s (.string ⟨(tx).toArray⟩))]]) 0 rfl (Nat.le_of_ble_eq_true rfl) rfl rfl ⟨rfl,rfl⟩|exact RetQ.fr 0|exact RetQ.fn 0|exact xg
theorem plain_29(m:Mg)(hb:m.small)(hk:m.kind=9):AC Tryz.prog 22 [iv .u8 2,mgV m] [] fun y σ=>y=mgV (m.pl 2)∧σ=[]:=by
 refine AC.wk Tryz.func22 ?_
 obtain ⟨knd,id,key,fnd,obj,old,ctx,mt,dd,vl,px,pg,rg,cd,tx⟩:=m
 simp only at hk
 subst hk
 have hp:=parts_29
 have t0:=over_object ⟨9,id,key,fnd,obj,old,ctx,mt,dd,vl,px,pg,rg,cd,tx⟩ (.s (.int .u8 9)) (.s (.int .u64 (id:Nat))) De Df De Dn De Dn Dn Dn Df De De De Df Dn Dn Dn D0 De hb.2.2.2.1.1 hb.2.2.2.1.2
 focus (have kk1:=uN [] hp;(repeat' (first|refine G ?_|refine AW.ret ?_|(refine GC ?_ ?_<;>intro h<;>(try simp only [hsB] at h)<;>try exact xf)|(refine GL ?_ ?_<;>intro h<;>(try simp only [hsN] at h)<;>(try simp only [h])<;>(try simp only [hsB] at h)<;>try exact xf)|fail));all_goals clear kk1)
 all_goals first|exact xg|skip
 refine AW.rounds [3,4,7,25,26,27] (fun i:Nat=>[(3,.p 0 0),(4,.p 1 0),(7,.p 13 0),(25,.b 12 0 1),(26,iv .i64 1),(27,iv .i64 (i:Nat))]) (fun i=>[.box 38 (mgC ⟨9,id,key,fnd,obj,old,ctx,mt,dd,vl,px,pg,rg,cd,tx⟩),.box 38 [.d (.s (.int .u8 0)),.d (.s (.int .u64 0)),.d De,.d Df,.d De,.d Dn,.d De,.d Dn,.d Dn,.d Dn,.d Df,.d De,.d De,.d De,.d Df,.d Dn,.d Dn,.d Dn,.d D0,.d De],qo29,.box 4 [bv true],qo22,qo12,qo26,qo16,qo30,.box 4 [bv false],qo23,qo7,qo17,.box 38 [.d (.s (.int .u8 9)),.d (.s (.int .u64 (id:Nat))),.d De,.d Df,(match i with|0=>.d De|_=>.d (.s (.string ⟨(obj.key).toArray⟩))),(match i with|0=>.d Dn|_=>.d (.l obj.sibs.length (sbsD obj.sibs))),.d De,.d Dn,.d Dn,.d Dn,.d Df,.d De,.d De,.d De,.d Df,.d Dn,.d Dn,.d Dn,.d D0,.d De]])
  (fun i=>i≤1) (fun i=>1-i) 0 (Nat.zero_le _) rfl rfl (fun _ _=>Nat.zero_le _) (fun i _=>by rcases i with _|i<;>rfl) (fun i _=>by rcases i with _|i<;>rfl) ?_
 rintro i hi J hJ
 have hc:i=0∨i=1:=by omega
 rcases hc with rfl|rfl
 ·clear hp
  (have kk1:=uN [13] t0;have go:=fun zT zs=>hJ 1 zT zs (by decide) (by decide);exact Wdg)
 ·clear hp hJ
  focus ((repeat' (first|refine G ?_|refine AW.ret ?_|(refine GC ?_ ?_<;>intro h<;>(try simp only [hsB] at h)<;>try exact xf)|(refine GL ?_ ?_<;>intro h<;>(try simp only [hsN] at h)<;>(try simp only [h])<;>(try simp only [hsB] at h)<;>try exact xf)|fail)))
  all_goals first|exact RetQ.r (xs:=[.a [.d (.s (.int .u8 9)),.d (.s (.int .u64 (id:Nat))),.d De,.d Df,.d (.s (.string ⟨(obj.key).toArray⟩)),.d (.l obj.sibs.length (sbsD obj.sibs)),.d De,.d Dn,.d Dn,.d Dn,.d Df,.d De,.d De,.d De,.d Df,.d Dn,.d Dn,.d Dn,.d D0,.d De]]) 0 rfl (Nat.le_of_ble_eq_true rfl) rfl rfl ⟨rfl,rfl⟩|exact RetQ.fr 0|exact RetQ.fn 0|exact xg
end Go.AW
