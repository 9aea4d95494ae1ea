/-
  objects that are read: the document's; objects that are written; whole texts.
-/
import Derived.Test.YtdnfcckkdnkaiaaGreatU27
import Derived.Test.YtdnfcckkdnkaiaaGreatU34
set_option linter.unusedVariables false
set_option linter.unusedSimpArgs false
set_option maxHeartbeats 4000000
set_option maxRecDepth 10000
namespace Go.AW
open Go Go.Proofs
attribute [local irreducible] thenQ blockQ RetQ AL AW AC AOp
theorem ref16_Take(c0:Cu)(h0:c0.Ok):AC Tryz.prog 106 [.p 0 0] [Cu.ro c0] fun x σ=>x=ojV c0.obj.1∧σ=[Cu.ro c0.obj.2]:=by
 refine AC.wk Tryz.func106 ?_
 have hok1:=Cu.blob_ok (max:=128) h0
 cases hb:Cu.blob c0 128 with
 | mk key c1=>
 have hb':Cu.blob ⟨c0.s,c0.a,c0.e⟩ 128=(key,c1):=hb
 rw [hb] at hok1
 obtain ⟨q1,hq1⟩:∃ q,gd (decide (key≠[])) 14 c1=q:=⟨_,rfl⟩
 have hok2:q1.Ok:=by rw [←hq1];exact gd_ok hok1
 have hok3:=Cu.count_ok (max:=16) hok2
 cases hn:q1.count 16 with
 | mk n c2=>
 rw [hn] at hok3
 have hn':Cu.count ⟨q1.s,q1.a,q1.e⟩ 16=(n,c2):=hn
 have hnl:n≤16:=by have:=Cu.count_max q1 16;rw [hn] at this;exact this
 obtain ⟨q2,hq2⟩:∃ q,gd (decide (n≠0)) 7 c2=q:=⟨_,rfl⟩
 have hok4:q2.Ok:=by rw [←hq2];exact gd_ok hok3
 have hobj:=obj_eq hb hq1 hn hq2
 rw [hobj]
 clear hobj
 have hke:key=[]↔key.length=0:=List.length_eq_zero_iff.symm
 have k1:(key.length=0∧c1.e=0∧Cu.mk c1.s c1.a 14=q1)∨(¬ (key.length=0∧c1.e=0)∧c1=q1):=by
  by_cases hc:c1.e=0
  ·by_cases hk:key=[]
   ·exact .inl ⟨hke.1 hk,hc,by rw [←hq1,hk,←Cu.fail_ok0 hc];rfl⟩
   ·exact .inr ⟨fun h=>hk (hke.2 h.1),by rw [←hq1];unfold gd;rw [if_pos (by simpa using hk)]⟩
  ·exact .inr ⟨fun h=>hc h.2,by rw [←hq1,gd_stuck hc]⟩
 have k2:(n=0∧c2.e=0∧Cu.mk c2.s c2.a 7=q2)∨(¬ (n=0∧c2.e=0)∧c2=q2):=by
  by_cases hc:c2.e=0
  ·by_cases hk:n=0
   ·exact .inl ⟨hk,hc,by rw [←hq2,hk,←Cu.fail_ok0 hc];rfl⟩
   ·exact .inr ⟨fun h=>hk h.1,by rw [←hq2];unfold gd;rw [if_pos (by simpa using hk)]⟩
  ·exact .inr ⟨fun h=>hc h.2,by rw [←hq2,gd_stuck hc]⟩
 clear hq1 hq2 hke
 rcases k1 with ⟨hk,hc1,h1⟩|⟨hk,h1⟩<;>rcases k2 with ⟨hn0,hc2,h2⟩|⟨hn0,h2⟩<;>subst h1<;>(try simp only at hn')
 all_goals
  focus (have kxs:=And.intro hb' hn';have kk1:=uN [0] (ref06_Take c0.s c0.a c0.e 128 h0 (by decide));have kk2:=uN [0] (ref06_Count _ _ _ 16 hok2 (by decide));(repeat' (first|(refine ADr.nil ?_;try clear hgv)|refine GO ?_|refine AW.ret ?_|(refine GC ?_ ?_<;>intro h<;>(try simp only [hsB] at h)<;>try exact xf)|(refine GD ?_ ?_<;>intro h<;>(try intro hgv)<;>(try simp only [hsN] at h)<;>(try simp only [h])<;>(try simp only [hsB] at h)<;>try exact xf)|(refine GL ?_ ?_<;>intro h<;>(try simp only [hsN] at h)<;>(try simp only [h])<;>(try simp only [hsB] at h)<;>try exact xf)|fail));all_goals clear kxs kk1 kk2)
  all_goals first|exact xg|skip
  all_goals
   refine AW.birth 155 7 [] [(2,1)] ?_
   refine AW.rounds [0,2,3,4,5] (fun x:List Sb × List UInt8 × Cu=>[(0,.p 0 0),(2,.p 1 0),(3,.p 2 0),(4,iv .i64 n),(5,iv .i64 x.1.length)])
    (fun x=>[Cu.ro x.2.2,.box 26 [sv (bs []),.d (.s (.slice none 0 0))],.box 26 [sv (bs key),.o 3 x.1.length],.row 155 7 x.1.length (sbsD x.1)])
    (fun x=>x.2.2.Ok∧(x.2.2.e=0→Slast x.1 x.2.1)∧Jfam n [] q2 x.1 x.2.1 x.2.2) (fun x=>n-x.1.length) ([],[],q2) ⟨hok4,fun _=>.inl ⟨rfl,rfl⟩,Fam.start n [] q2⟩ rfl (by subst h2;rfl) (fun _ _=>Nat.le_of_ble_eq_true rfl) (fun _ _=>rfl) (fun _ _=>rfl) ?_
   clear h2 hb hb' hn hn' hn0 hk hok1 hok2 hok3 hok4
   rintro ⟨out,p,c⟩ ⟨hok,hlast,hf⟩ J hJ
   simp only at hok hlast hf ⊢
   by_cases hce:c.e=0
   case neg=>
    have hbad:(Cu.objs n [] q2).2=c:=Fam.bad (fun k c h=>(trip_os2 k).stuck c h) hf hce
    rw [hbad,if_pos hce]
    focus ((repeat' (first|(refine ADr.nil ?_;try clear hgv)|refine GO ?_|refine AW.ret ?_|(refine GC ?_ ?_<;>intro h<;>(try simp only [hsB] at h)<;>try exact xf)|(refine GD ?_ ?_<;>intro h<;>(try intro hgv)<;>(try simp only [hsN] at h)<;>(try simp only [h])<;>(try simp only [hsB] at h)<;>try exact xf)|(refine GL ?_ ?_<;>intro h<;>(try simp only [hsN] at h)<;>(try simp only [h])<;>(try simp only [hsB] at h)<;>try exact xf)|fail)))
    all_goals first|(((all_goals first|refine RetQ.yr 1 ⟨?_,?_⟩|refine RetQ.yn 1 ⟨?_,?_⟩);(all_goals first|rfl|(simp [oj0, *];done)|((simp only [go_sem,↓reduceIte,Nat.reduceLT,oj0];(repeat' split))<;>first|rfl|(exfalso;omega)|(simp_all;done)|(simp_all;omega))));done)|(exfalso;simp_all;done)
   by_cases hlen:out.length<n
   case neg=>
    have hdone:Cu.objs n [] q2=(out,c):=Fam.done hf hce hlen
    rw [hdone]
    simp only
    rw [if_neg (by simpa using hce)]
    focus ((repeat' (first|(refine ADr.nil ?_;try clear hgv)|refine GO ?_|refine AW.ret ?_|(refine GC ?_ ?_<;>intro h<;>(try simp only [hsB] at h)<;>try exact xf)|(refine GD ?_ ?_<;>intro h<;>(try intro hgv)<;>(try simp only [hsN] at h)<;>(try simp only [h])<;>(try simp only [hsB] at h)<;>try exact xf)|(refine GL ?_ ?_<;>intro h<;>(try simp only [hsN] at h)<;>(try simp only [h])<;>(try simp only [hsB] at h)<;>try exact xf)|fail)))
    all_goals first|(((all_goals first|refine RetQ.yr 1 (xs:=[.a [sv (bs key),.o 3 out.length]]) ⟨?_,?_⟩|refine RetQ.yn 1 (xs:=[.a [sv (bs key),.o 3 out.length]]) ⟨?_,?_⟩);(all_goals exact fx));done)|exact xg
   have hstep:=Fam.step hf hce hlen
   have hg1:=Cu.sib_ok hok
   have hbk:=trip_sib.back c
   cases hv:c.sib with
   | mk x g1=>
   rw [hv] at hg1 hbk
   simp only at hg1 hbk
   rw [os2_step hv] at hstep
   have hsn:=sbs_snoc out x
   have hln:(out++[x]).length=out.length+1:=by simp
   have hlast:=hlast hce
   by_cases hge:g1.e=0
   case neg=>
    rw [gd_stuck hge] at hstep
    focus (have kxs:=hv;have kk1:=uN [0] (ref15_Take c hok);(repeat' (first|(refine ADr.nil ?_;try clear hgv)|refine GO ?_|refine AW.ret ?_|(refine GC ?_ ?_<;>intro h<;>(try simp only [hsB] at h)<;>try exact xf)|(refine GD ?_ ?_<;>intro h<;>(try intro hgv)<;>(try simp only [hsN] at h)<;>(try simp only [h])<;>(try simp only [hsB] at h)<;>try exact xf)|(refine GL ?_ ?_<;>intro h<;>(try simp only [hsN] at h)<;>(try simp only [h])<;>(try simp only [hsB] at h)<;>try exact xf)|fail));all_goals clear kxs kk1)
    all_goals first|(refine hJ (out++[x],skey x,g1) _ _ (by simp only [hln];omega) ⟨hg1,fun h=>absurd h hge,hstep⟩ (by simp only [hln];rfl) ?_;simp only [←hsn,hln];rfl)|exact xg
   have hgx:=(hbk hge).1
   have hfx:=Sb.fits_of hgx
   have hnl:Slast (out++[x]) (skey x):=Slast.snoc out hgx
   have hkl:=Sb.key_len hgx
   rcases hlast with ⟨rfl,rfl⟩|⟨hlo,y,r,hyd,hgy,rfl⟩
   ·rw [skey_first] at hstep
    have hgd:gd true 6 g1=g1:=rfl
    rw [hgd] at hstep
    focus (have kxs:=hv;have kk1:=uN [0] (ref15_Take c hok);(repeat' (first|(refine ADr.nil ?_;try clear hgv)|refine GO ?_|refine AW.ret ?_|(refine GC ?_ ?_<;>intro h<;>(try simp only [hsB] at h)<;>try exact xf)|(refine GD ?_ ?_<;>intro h<;>(try intro hgv)<;>(try simp only [hsN] at h)<;>(try simp only [h])<;>(try simp only [hsB] at h)<;>try exact xf)|(refine GL ?_ ?_<;>intro h<;>(try simp only [hsN] at h)<;>(try simp only [h])<;>(try simp only [hsB] at h)<;>try exact xf)|fail));all_goals clear kxs kk1)
    all_goals first|(refine hJ ([x],skey x,g1) _ _ (by simp only [List.length_cons,List.length_nil] at *;omega) ⟨hg1,fun _=>hnl,hstep⟩ rfl ?_;simp only [List.nil_append] at hsn;simp only [←hsn];rfl)|exact xg
   have hcd:=sbs_drop hyd
   have hi1:((out.length:Int)-1).toNat=out.length-1:=by omega
   have hfy:=Sb.fits_of hgy
   have hyl:=Sb.key_len hgy
   by_cases hls:lessB (skey y) (skey x)=true
   ·have hls':Op.bytesLess (skey y) (skey x)=true:=hls
    rw [hls] at hstep
    have hgd:gd true 6 g1=g1:=rfl
    rw [hgd] at hstep
    focus (have kxs:=And.intro hv (And.intro hcd (And.intro hi1 hls'));have kk1:=uN [0] (ref15_Take c hok);have kk2:=uN [] (ref16_key x hfx hgx.1);have kk3:=uN [] (ref16_key y hfy hgy.1);have kk4:=uN [] (ref06_Below (skey y) (skey x) (by omega) (by omega));(repeat' (first|(refine ADr.nil ?_;try clear hgv)|refine GO ?_|refine AW.ret ?_|(refine GC ?_ ?_<;>intro h<;>(try simp only [hsB] at h)<;>try exact xf)|(refine GD ?_ ?_<;>intro h<;>(try intro hgv)<;>(try simp only [hsN] at h)<;>(try simp only [h])<;>(try simp only [hsB] at h)<;>try exact xf)|(refine GL ?_ ?_<;>intro h<;>(try simp only [hsN] at h)<;>(try simp only [h])<;>(try simp only [hsB] at h)<;>try exact xf)|fail));all_goals clear kxs kk1 kk2 kk3 kk4)
    all_goals first|(refine hJ (out++[x],skey x,g1) _ _ (by simp only [hln];omega) ⟨hg1,fun _=>hnl,hstep⟩ (by simp only [hln];rfl) ?_;simp only [←hsn,hln];rfl)|exact xg
   ·have hls:lessB (skey y) (skey x)=false:=by simpa using hls
    have hls':Op.bytesLess (skey y) (skey x)=false:=hls
    rw [hls] at hstep
    have hgd:gd false 6 g1=⟨g1.s,g1.a,6⟩:=Cu.fail_ok0 hge 6
    rw [hgd] at hstep
    focus (have kxs:=And.intro hv (And.intro hcd (And.intro hi1 hls'));have kk1:=uN [0] (ref15_Take c hok);have kk2:=uN [] (ref16_key x hfx hgx.1);have kk3:=uN [] (ref16_key y hfy hgy.1);have kk4:=uN [] (ref06_Below (skey y) (skey x) (by omega) (by omega));(repeat' (first|(refine ADr.nil ?_;try clear hgv)|refine GO ?_|refine AW.ret ?_|(refine GC ?_ ?_<;>intro h<;>(try simp only [hsB] at h)<;>try exact xf)|(refine GD ?_ ?_<;>intro h<;>(try intro hgv)<;>(try simp only [hsN] at h)<;>(try simp only [h])<;>(try simp only [hsB] at h)<;>try exact xf)|(refine GL ?_ ?_<;>intro h<;>(try simp only [hsN] at h)<;>(try simp only [h])<;>(try simp only [hsB] at h)<;>try exact xf)|fail));all_goals clear kxs kk1 kk2 kk3 kk4)
    all_goals first|(refine hJ (out++[x],skey x,⟨g1.s,g1.a,6⟩) _ _ (by simp only [hln];omega) ⟨hg1,fun h=>absurd (show (6:Int)=0 from h) (by decide),hstep⟩ (by simp only [hln];rfl) ?_;simp only [←hsn,hln];rfl)|exact xg
theorem ref16_Decode(s:List UInt8)(hs:s.length≤140737488351232):AC Tryz.prog 39 [sv (bs s)] [] fun x σ=>x=.t [ojV (objw s).1,iv .i64 (objw s).2]∧σ=[]:=by
 have h0:Cu.Ok ⟨s,0,0⟩:=⟨hs,Nat.zero_le _⟩
 have hq:=Cu.obj_ok h0
 refine AC.wk Tryz.func39 ?_
 unfold objw rdw
 generalize hp:Cu.obj ⟨s,0,0⟩=z at *
 obtain ⟨v,c⟩:=z
 have hfe:Cu.fin ⟨c.s,c.a,c.e⟩=c.fin:=rfl
 simp only
 generalize hc:c.fin=d at *
 by_cases he:d.e=0
 ·rw [if_neg (by simpa using he),he]
  (have kxs:=And.intro hp (And.intro hc hfe);have kk1:=uN [1] (ref16_Take ⟨s,0,0⟩ h0);have kk2:=uN [1] (ref01_End c.s c.a c.e hq);exact Wd0)
 ·rw [if_pos he]
  focus (have kxs:=And.intro hp (And.intro hc hfe);have kk1:=uN [1] (ref16_Take ⟨s,0,0⟩ h0);have kk2:=uN [1] (ref01_End c.s c.a c.e hq);(repeat' (first|refine G ?_|refine AW.ret ?_|(refine GC ?_ ?_<;>intro h<;>(try simp only [hsB] at h)<;>try exact xf)|(refine GL ?_ ?_<;>intro h<;>(try simp only [hsN] at h)<;>(try simp only [h])<;>(try simp only [hsB] at h)<;>try exact xf)|fail));all_goals clear kxs kk1 kk2)
  all_goals first|(((all_goals first|refine RetQ.yr 0 ⟨?_,?_⟩|refine RetQ.yn 0 ⟨?_,?_⟩);(all_goals first|rfl|(simp [oj0, *];done)|((simp only [go_sem,↓reduceIte,Nat.reduceLT,oj0];(repeat' split))<;>first|rfl|(exfalso;omega)|(simp_all;done)|(simp_all;omega))));done)|(exfalso;simp_all;done)
end Go.AW
