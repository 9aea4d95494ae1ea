/-
  a message's parts: how they are taken over.
-/
import Derived.Test.YtdnfcckkdnkaiaaGreatU48
set_option linter.unusedVariables false
set_option linter.unusedSimpArgs false
set_option maxHeartbeats 4000000
set_option maxRecDepth 10000
namespace Go.AW
open Go Go.Proofs
attribute [local irreducible] thenQ blockQ RetQ AL AW AC AOp
theorem object_Copy(x:Oj)(hx:x.sibs.length≤1000000)(hs:∀ y ∈ x.sibs,y.clk.ctx.length≤1000000∧y.meta_.length≤1000000):AC Tryz.prog 200 [ojV x] [] fun y σ=>y=ojV x∧σ=[]:=by
 refine AC.wk Tryz.func200 ?_
 obtain ⟨key,l⟩:=x
 simp only at hx hs ⊢
 focus ((repeat' (first|(refine ADr.nil ?_;try clear hgv)|refine GO ?_|refine AW.ret ?_|(refine GC ?_ ?_<;>intro h<;>(try simp only [hsB] at h)<;>try exact xf)|(refine GD ?_ ?_<;>intro h<;>(try intro hgv)<;>(try simp only [hsN] at h)<;>(try simp only [h])<;>(try simp only [hsB] at h)<;>try exact xf)|(refine GL ?_ ?_<;>intro h<;>(try simp only [hsN] at h)<;>(try simp only [h])<;>(try simp only [hsB] at h)<;>try exact xf)|fail)))
 all_goals first|exact xg|skip
 refine AW.birth 155 7 [] [(2,1)] ?_
 refine AW.rounds [2,3,10,11,12] (fun i:Nat=>[(2,.p 1 0),(3,.p 2 0),(10,.d (.l l.length (sbsD l))),(11,iv .i64 l.length),(12,iv .i64 i)])
  (fun i=>[.box 26 [sv (bs key),.d (.l l.length (sbsD l))],.box 26 [sv (bs []),.d Dn],.box 26 [sv (bs key),.o 3 i],.row 155 7 i (sbsD (l.take i))])
  (fun i=>i≤l.length) (fun i=>l.length-i) 0 (Nat.zero_le _) rfl rfl (fun _ _=>Nat.zero_le _) (fun _ _=>rfl) (fun _ _=>rfl) ?_
 rintro i hi J hJ
 by_cases hil:i<l.length
 ·obtain ⟨x,r,hd⟩:=next_at hil
  have hcd:=sbs_drop hd
  obtain ⟨q1,q2⟩:=hs x (next_mem hd)
  have hcp:=sibling_Copy x q1 q2
  have hsn:=sbs_snoc (l.take i) x
  rw [←next_take hd] at hsn
  have hon:onesD [D.l x.clk.ctx.length (vecD x.clk.ctx),.s (.bool x.clk.dotted),.s (.string ⟨x.clk.dot.1.toArray⟩),.s (.int .u64 x.clk.dot.2),.l x.meta_.length (prsD x.meta_),.s (.bool x.dead),.s (.string ⟨x.val.toArray⟩)]=true:=rfl
  focus (have kxs:=And.intro hcd hon;have kk1:=uN [] hcp;(repeat' (first|(refine ADr.nil ?_;try clear hgv)|refine GW ?_|refine AW.ret ?_|(refine GC ?_ ?_<;>intro h<;>(try simp only [hsB] at h)<;>try exact xf)|(refine GD ?_ ?_<;>intro h<;>(try intro hgv)<;>(try simp only [hsN] at h)<;>(try simp only [h])<;>(try simp only [hsB] at h)<;>try exact xf)|(refine GL ?_ ?_<;>intro h<;>(try simp only [hsN] at h)<;>(try simp only [h])<;>(try simp only [hsB] at h)<;>try exact xf)|fail));all_goals clear kxs kk1)
  all_goals first|(refine hJ (i+1) _ _ (by omega) hil rfl ?_;rw [←hsn];rfl)|(exfalso;simp_all;done)
 ·have hi2:i=l.length:=by omega
  subst hi2
  rw [List.take_length]
  clear hJ
  focus ((repeat' (first|(refine ADr.nil ?_;try clear hgv)|refine GO ?_|refine AW.ret ?_|(refine GC ?_ ?_<;>intro h<;>(try simp only [hsB] at h)<;>try exact xf)|(refine GD ?_ ?_<;>intro h<;>(try intro hgv)<;>(try simp only [hsN] at h)<;>(try simp only [h])<;>(try simp only [hsB] at h)<;>try exact xf)|(refine GL ?_ ?_<;>intro h<;>(try simp only [hsN] at h)<;>(try simp only [h])<;>(try simp only [hsB] at h)<;>try exact xf)|fail)))
  all_goals first|(((all_goals first|refine RetQ.yr 0 (xs:=[.a [sv (bs key),.o 3 l.length]]) ⟨?_,?_⟩|refine RetQ.yn 0 (xs:=[.a [sv (bs key),.o 3 l.length]]) ⟨?_,?_⟩);(all_goals exact fx));done)|exact xg
theorem over_Key(m:Mg)(d0 d1 d2 d3 d4 d5 d6 d7 d8 d9 d10 d11 d12 d13 d14 d15 d16 d17 d18 d19:D):AC Tryz.prog 174 [.p 0 0,mgV m,.p 1 0] [.box 38 [.d d0,.d d1,.d d2,.d d3,.d d4,.d d5,.d d6,.d d7,.d d8,.d d9,.d d10,.d d11,.d d12,.d d13,.d d14,.d d15,.d d16,.d d17,.d d18,.d d19],qo22] fun y σ=>y=.t []∧σ=[.box 38 [.d d0,.d d1,sv (bs m.key),.d d3,.d d4,.d d5,.d d6,.d d7,.d d8,.d d9,.d d10,.d d11,.d d12,.d d13,.d d14,.d d15,.d d16,.d d17,.d d18,.d d19],qo22]:=by
 refine AC.wk Tryz.func174 ?_
 have ho1:=of_Key [.d d0,.d d1,.d d2,.d d3,.d d4,.d d5,.d d6,.d d7,.d d8,.d d9,.d d10,.d d11,.d d12,.d d13,.d d14,.d d15,.d d16,.d d17,.d d18,.d d19] rfl
 have ho2:=of_Key (mgC m) rfl
 (have kk1:=uN [0] ho1;have kk2:=uN [2] ho2;exact Wf2)
theorem over_Text(m:Mg)(d0 d1 d2 d3 d4 d5 d6 d7 d8 d9 d10 d11 d12 d13 d14 d15 d16 d17 d18 d19:D):AC Tryz.prog 174 [.p 0 0,mgV m,.p 1 0] [.box 38 [.d d0,.d d1,.d d2,.d d3,.d d4,.d d5,.d d6,.d d7,.d d8,.d d9,.d d10,.d d11,.d d12,.d d13,.d d14,.d d15,.d d16,.d d17,.d d18,.d d19],qo23] fun y σ=>y=.t []∧σ=[.box 38 [.d d0,.d d1,.d d2,.d d3,.d d4,.d d5,.d d6,.d d7,.d d8,.d d9,.d d10,.d d11,.d d12,.d d13,.d d14,.d d15,.d d16,.d d17,.d d18,sv (bs m.txt)],qo23]:=by
 refine AC.wk Tryz.func174 ?_
 have ho1:=of_Text [.d d0,.d d1,.d d2,.d d3,.d d4,.d d5,.d d6,.d d7,.d d8,.d d9,.d d10,.d d11,.d d12,.d d13,.d d14,.d d15,.d d16,.d d17,.d d18,.d d19] rfl
 have ho2:=of_Text (mgC m) rfl
 (have kk1:=uN [0] ho1;have kk2:=uN [2] ho2;exact Wf2)
theorem over_Value(m:Mg)(d0 d1 d2 d3 d4 d5 d6 d7 d8 d9 d10 d11 d12 d13 d14 d15 d16 d17 d18 d19:D):AC Tryz.prog 174 [.p 0 0,mgV m,.p 1 0] [.box 38 [.d d0,.d d1,.d d2,.d d3,.d d4,.d d5,.d d6,.d d7,.d d8,.d d9,.d d10,.d d11,.d d12,.d d13,.d d14,.d d15,.d d16,.d d17,.d d18,.d d19],qo24] fun y σ=>y=.t []∧σ=[.box 38 [.d d0,.d d1,.d d2,.d d3,.d d4,.d d5,.d d6,.d d7,.d d8,.d d9,.d d10,sv (bs m.val),.d d12,.d d13,.d d14,.d d15,.d d16,.d d17,.d d18,.d d19],qo24]:=by
 refine AC.wk Tryz.func174 ?_
 have ho1:=of_Value [.d d0,.d d1,.d d2,.d d3,.d d4,.d d5,.d d6,.d d7,.d d8,.d d9,.d d10,.d d11,.d d12,.d d13,.d d14,.d d15,.d d16,.d d17,.d d18,.d d19] rfl
 have ho2:=of_Value (mgC m) rfl
 (have kk1:=uN [0] ho1;have kk2:=uN [2] ho2;exact Wf2)
theorem over_Prefix(m:Mg)(d0 d1 d2 d3 d4 d5 d6 d7 d8 d9 d10 d11 d12 d13 d14 d15 d16 d17 d18 d19:D):AC Tryz.prog 174 [.p 0 0,mgV m,.p 1 0] [.box 38 [.d d0,.d d1,.d d2,.d d3,.d d4,.d d5,.d d6,.d d7,.d d8,.d d9,.d d10,.d d11,.d d12,.d d13,.d d14,.d d15,.d d16,.d d17,.d d18,.d d19],qo25] fun y σ=>y=.t []∧σ=[.box 38 [.d d0,.d d1,.d d2,.d d3,.d d4,.d d5,.d d6,.d d7,.d d8,.d d9,.d d10,.d d11,sv (bs m.pre),.d d13,.d d14,.d d15,.d d16,.d d17,.d d18,.d d19],qo25]:=by
 refine AC.wk Tryz.func174 ?_
 have ho1:=of_Prefix [.d d0,.d d1,.d d2,.d d3,.d d4,.d d5,.d d6,.d d7,.d d8,.d d9,.d d10,.d d11,.d d12,.d d13,.d d14,.d d15,.d d16,.d d17,.d d18,.d d19] rfl
 have ho2:=of_Prefix (mgC m) rfl
 (have kk1:=uN [0] ho1;have kk2:=uN [2] ho2;exact Wf2)
theorem over_Found(m:Mg)(d0 d1 d2 d3 d4 d5 d6 d7 d8 d9 d10 d11 d12 d13 d14 d15 d16 d17 d18 d19:D):AC Tryz.prog 179 [.p 0 0,mgV m,.p 1 0] [.box 38 [.d d0,.d d1,.d d2,.d d3,.d d4,.d d5,.d d6,.d d7,.d d8,.d d9,.d d10,.d d11,.d d12,.d d13,.d d14,.d d15,.d d16,.d d17,.d d18,.d d19],qo26] fun y σ=>y=.t []∧σ=[.box 38 [.d d0,.d d1,.d d2,bv m.found,.d d4,.d d5,.d d6,.d d7,.d d8,.d d9,.d d10,.d d11,.d d12,.d d13,.d d14,.d d15,.d d16,.d d17,.d d18,.d d19],qo26]:=by
 refine AC.wk Tryz.func179 ?_
 have ho1:=of_Found [.d d0,.d d1,.d d2,.d d3,.d d4,.d d5,.d d6,.d d7,.d d8,.d d9,.d d10,.d d11,.d d12,.d d13,.d d14,.d d15,.d d16,.d d17,.d d18,.d d19] rfl
 have ho2:=of_Found (mgC m) rfl
 (have kk1:=uN [0] ho1;have kk2:=uN [2] ho2;exact Wf2)
theorem over_Dead(m:Mg)(d0 d1 d2 d3 d4 d5 d6 d7 d8 d9 d10 d11 d12 d13 d14 d15 d16 d17 d18 d19:D):AC Tryz.prog 179 [.p 0 0,mgV m,.p 1 0] [.box 38 [.d d0,.d d1,.d d2,.d d3,.d d4,.d d5,.d d6,.d d7,.d d8,.d d9,.d d10,.d d11,.d d12,.d d13,.d d14,.d d15,.d d16,.d d17,.d d18,.d d19],qo27] fun y σ=>y=.t []∧σ=[.box 38 [.d d0,.d d1,.d d2,.d d3,.d d4,.d d5,.d d6,.d d7,.d d8,.d d9,bv m.dead,.d d11,.d d12,.d d13,.d d14,.d d15,.d d16,.d d17,.d d18,.d d19],qo27]:=by
 refine AC.wk Tryz.func179 ?_
 have ho1:=of_Dead [.d d0,.d d1,.d d2,.d d3,.d d4,.d d5,.d d6,.d d7,.d d8,.d d9,.d d10,.d d11,.d d12,.d d13,.d d14,.d d15,.d d16,.d d17,.d d18,.d d19] rfl
 have ho2:=of_Dead (mgC m) rfl
 (have kk1:=uN [0] ho1;have kk2:=uN [2] ho2;exact Wf2)
theorem over_ctx(m:Mg)(d0 d1 d2 d3 d4 d5 d6 d7 d8 d9 d10 d11 d12 d13 d14 d15 d16 d17 d18 d19:D)(h:m.ctx.length≤1000000):AC Tryz.prog 211 [.p 0 0,mgV m] [.box 38 [.d d0,.d d1,.d d2,.d d3,.d d4,.d d5,.d d6,.d d7,.d d8,.d d9,.d d10,.d d11,.d d12,.d d13,.d d14,.d d15,.d d16,.d d17,.d d18,.d d19]] fun y σ=>y=.t []∧σ=[.box 38 [.d d0,.d d1,.d d2,.d d3,.d d4,.d d5,.d d6,.d d7,.d (.l m.ctx.length (vecD m.ctx)),.d d9,.d d10,.d d11,.d d12,.d d13,.d d14,.d d15,.d d16,.d d17,.d d18,.d d19]]:=by
 refine AC.wk Tryz.func211 ?_
 have hc:=clone_En m.ctx h
 (have kk1:=uN [] hc;exact Wd1)
theorem over_meta(m:Mg)(d0 d1 d2 d3 d4 d5 d6 d7 d8 d9 d10 d11 d12 d13 d14 d15 d16 d17 d18 d19:D)(h:m.meta_.length≤1000000):AC Tryz.prog 217 [.p 0 0,mgV m] [.box 38 [.d d0,.d d1,.d d2,.d d3,.d d4,.d d5,.d d6,.d d7,.d d8,.d d9,.d d10,.d d11,.d d12,.d d13,.d d14,.d d15,.d d16,.d d17,.d d18,.d d19]] fun y σ=>y=.t []∧σ=[.box 38 [.d d0,.d d1,.d d2,.d d3,.d d4,.d d5,.d d6,.d d7,.d d8,.d (.l m.meta_.length (prsD m.meta_)),.d d10,.d d11,.d d12,.d d13,.d d14,.d d15,.d d16,.d d17,.d d18,.d d19]]:=by
 refine AC.wk Tryz.func217 ?_
 have hc:=clone_Pr m.meta_ h
 (have kk1:=uN [] hc;exact Wd1)
theorem over_code(m:Mg)(d0 d1 d2 d3 d4 d5 d6 d7 d8 d9 d10 d11 d12 d13 d14 d15 d16 d17 d18 d19:D)  : AC Tryz.prog 205 [.p 0 0,mgV m] [.box 38 [.d d0,.d d1,.d d2,.d d3,.d d4,.d d5,.d d6,.d d7,.d d8,.d d9,.d d10,.d d11,.d d12,.d d13,.d d14,.d d15,.d d16,.d d17,.d d18,.d d19]] fun y σ=>y=.t []∧σ=[.box 38 [.d d0,.d d1,.d d2,.d d3,.d d4,.d d5,.d d6,.d d7,.d d8,.d d9,.d d10,.d d11,.d d12,.d d13,.d d14,.d d15,.d d16,.d d17,iv .i64 m.code,.d d19]]:=by
 refine AC.wk Tryz.func205 ?_
 exact Wd1
theorem over_object(m:Mg)(d0 d1 d2 d3 d4 d5 d6 d7 d8 d9 d10 d11 d12 d13 d14 d15 d16 d17 d18 d19:D)(h1:m.obj.sibs.length≤1000000)(h2:∀ y ∈ m.obj.sibs,y.clk.ctx.length≤1000000∧y.meta_.length≤1000000):AC Tryz.prog 199 [.p 0 0,mgV m] [.box 38 [.d d0,.d d1,.d d2,.d d3,.d d4,.d d5,.d d6,.d d7,.d d8,.d d9,.d d10,.d d11,.d d12,.d d13,.d d14,.d d15,.d d16,.d d17,.d d18,.d d19]] fun y σ=>y=.t []∧σ=[.box 38 [.d d0,.d d1,.d d2,.d d3,sv (bs m.obj.key),.d (.l m.obj.sibs.length (sbsD m.obj.sibs)),.d d6,.d d7,.d d8,.d d9,.d d10,.d d11,.d d12,.d d13,.d d14,.d d15,.d d16,.d d17,.d d18,.d d19]]:=by
 refine AC.wk Tryz.func199 ?_
 have hc:=object_Copy m.obj h1 h2
 (have kk1:=uN [] hc;exact Wd1)
theorem clone_It(v:List It)(hv:v.length≤1000000):AC Tryz.prog 226 [.d (.l v.length (itsD v))] [] fun x σ=>x=.d (.l v.length (itsD v))∧σ=[]:=by
 refine AC.wk Tryz.func226 ?_
 have hol:(itsD v).length=v.length*2:=flat_len (f:=itD) (sz:=2) (fun _=>rfl) v
 have hon:onesD (itsD v)=true:=onesD_flat itD (fun _=>rfl) v
 focus ((repeat' (first|refine G ?_|refine AW.ret ?_|(refine GC ?_ ?_<;>intro h<;>(try simp only [hsB] at h)<;>try exact xf)|(refine GL ?_ ?_<;>intro h<;>(try simp only [hsN] at h)<;>(try simp only [h])<;>(try simp only [hsB] at h)<;>try exact xf)|fail)))
 refine AL.one (by decide) fun Kr hr=>?_
 (try simp only [ao,List.map_cons,List.map_nil]);simp (disch:=omega) only [go_sem]
 intro b hb
 refine hr _ _ ?_
 clear hr Kr
 cases b with
 | true=>
  have h0:v=[]:=List.length_eq_zero_iff.1 (hb rfl)
  subst h0
  exact Wd0
 | false=>
  (have kxs:=hon;exact Wd0)
theorem clone_Sl(v:List Sl)(hv:v.length≤1000000):AC Tryz.prog 225 [.d (.l v.length (slsD v))] [] fun x σ=>x=.d (.l v.length (slsD v))∧σ=[]:=by
 refine AC.wk Tryz.func225 ?_
 have hol:(slsD v).length=v.length*2:=flat_len (f:=slD) (sz:=2) (fun _=>rfl) v
 have hon:onesD (slsD v)=true:=onesD_flat slD (fun _=>rfl) v
 focus ((repeat' (first|refine G ?_|refine AW.ret ?_|(refine GC ?_ ?_<;>intro h<;>(try simp only [hsB] at h)<;>try exact xf)|(refine GL ?_ ?_<;>intro h<;>(try simp only [hsN] at h)<;>(try simp only [h])<;>(try simp only [hsB] at h)<;>try exact xf)|fail)))
 refine AL.one (by decide) fun Kr hr=>?_
 (try simp only [ao,List.map_cons,List.map_nil]);simp (disch:=omega) only [go_sem]
 intro b hb
 refine hr _ _ ?_
 clear hr Kr
 cases b with
 | true=>
  have h0:v=[]:=List.length_eq_zero_iff.1 (hb rfl)
  subst h0
  exact Wd0
 | false=>
  (have kxs:=hon;exact Wd0)
theorem over_page(m:Mg)(d0 d1 d2 d3 d4 d5 d6 d7 d8 d9 d10 d11 d12 d13 d14 d15 d16 d17 d18 d19:D)(h1:m.page.slots.length≤1000000)(h2:m.page.items.length≤1000000):AC Tryz.prog 224 [.p 0 0,mgV m] [.box 38 [.d d0,.d d1,.d d2,.d d3,.d d4,.d d5,.d d6,.d d7,.d d8,.d d9,.d d10,.d d11,.d d12,.d d13,.d d14,.d d15,.d d16,.d d17,.d d18,.d d19]] fun y σ=>y=.t []∧σ=[.box 38 [.d d0,.d d1,.d d2,.d d3,.d d4,.d d5,.d d6,.d d7,.d d8,.d d9,.d d10,.d d11,.d d12,sv (bs m.page.pre),bv m.page.leaf,.d (.l m.page.slots.length (slsD m.page.slots)),.d (.l m.page.items.length (itsD m.page.items)),.d d17,.d d18,.d d19]]:=by
 refine AC.wk Tryz.func224 ?_
 have hc1:=clone_Sl m.page.slots h1
 have hc2:=clone_It m.page.items h2
 (have kk1:=uN [] hc1;have kk2:=uN [] hc2;exact Wf1)
end Go.AW
