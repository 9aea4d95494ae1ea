/-
  messages that are the same: the program's and the document's.
-/
import Derived.Test.YtdnfcckkdnkaiaaGreatU48
set_option linter.unusedVariables false
set_option linter.unusedSimpArgs false
set_option maxHeartbeats 4000000
set_option maxRecDepth 10000
namespace Go.AW
open Go Go.Proofs
attribute [local irreducible] thenQ blockQ RetQ AL AW AC AOp
deriving instance DecidableEq for Mg
theorem slices_EqualFuncSb(v w:List Sb)(hv:v.length≤9223372036854775807)(hf:∀ x ∈ v,x.clk.ctx.length≤9223372036854775807∧x.meta_.length≤9223372036854775807):AC Tryz.prog 85 [.d (.l v.length (sbsD v)),.d (.l w.length (sbsD w)),.f (.func 86) [] []] [] fun x σ=>x=bv (decide (v=w))∧σ=[]:=by
 refine AC.wk Tryz.func85 ?_
 by_cases hl:v.length=w.length
 case neg=>
  have hc:decide (v=w)=false:=by simp;rintro rfl;exact hl rfl
  focus (have kxs:=hc;(repeat' (first|refine G ?_|refine AW.ret ?_|(refine GC ?_ ?_<;>intro h<;>(try simp only [hsB] at h)<;>try exact xf)|(refine GL ?_ ?_<;>intro h<;>(try simp only [hsN] at h)<;>(try simp only [h])<;>(try simp only [hsB] at h)<;>try exact xf)|fail));all_goals clear kxs)
  all_goals first|(exfalso;omega)|((all_goals have kxf:=hc;first|exact RetQ.xr 0|exact RetQ.xn 0|fail);done)
 focus ((repeat' (first|refine G ?_|refine AW.ret ?_|(refine GC ?_ ?_<;>intro h<;>(try simp only [hsB] at h)<;>try exact xf)|(refine GL ?_ ?_<;>intro h<;>(try simp only [hsN] at h)<;>(try simp only [h])<;>(try simp only [hsB] at h)<;>try exact xf)|fail)))
 all_goals first|(exfalso;omega)|skip
 refine AW.rounds [1,2,6,15,16,17] (fun i:Nat=>[(1,.d (.l w.length (sbsD w))),(2,.f (.func 86) [] []),(6,bv false),(15,.d (.l v.length (sbsD v))),(16,iv .i64 v.length),(17,iv .i64 i)]) (fun _=>[])
  (fun i=>i≤v.length∧(v=w↔v.drop i=w.drop i)) (fun i=>v.length-i) 0 ⟨Nat.zero_le _,by simp⟩ rfl rfl (fun _ _=>Nat.zero_le _) (fun _ _=>rfl) (fun _ _=>rfl) ?_
 rintro i ⟨hi,hr⟩ J hJ
 by_cases hil:i<v.length
 ·obtain ⟨x,r,hd⟩:=next_at hil
  obtain ⟨y,s,he⟩:=next_at (l:=w) (i:=i) (by omega)
  have hcd:=sbs_drop hd
  have hce:=sbs_drop he
  have hfx:=hf x (next_mem hd)
  have h1:=sibling_Same x y hfx.1 hfx.2
  by_cases hxy:x=y
  ·have hJ2:v=w↔v.drop (i+1)=w.drop (i+1):=by
     rw [hr,next_drop hd,next_drop he,hd,he,hxy];simp
   rw [decide_eq_true hxy] at h1
   focus (have kxs:=And.intro hcd hce;have kk1:=uN [] h1;(repeat' (first|refine G ?_|refine AW.ret ?_|(refine GC ?_ ?_<;>intro h<;>(try simp only [hsB] at h)<;>try exact xf)|(refine GL ?_ ?_<;>intro h<;>(try simp only [hsN] at h)<;>(try simp only [h])<;>(try simp only [hsB] at h)<;>try exact xf)|fail));all_goals clear kxs kk1)
   all_goals first|(exact hJ (i+1) _ _ (by omega) ⟨hil,hJ2⟩ rfl rfl)|(exfalso;simp_all;done)
  ·have hc:decide (v=w)=false:=by
     simp only [decide_eq_false_iff_not]
     rw [hr,hd,he]
     intro e
     exact hxy (List.cons.inj e).1
   rw [hc]
   rw [decide_eq_false hxy] at h1
   (have kxs:=And.intro hcd hce;have kk1:=uN [] h1;exact Wd0)
 ·have hc:decide (v=w)=true:=by
    simp only [decide_eq_true_eq]
    rw [hr,List.drop_eq_nil_of_le (by omega),List.drop_eq_nil_of_le (by omega)]
  rw [hc]
  exact Wd0
theorem slices_EqualIt(v w:List It)(hv:v.length≤9223372036854775807):AC Tryz.prog 146 [.d (.l v.length (itsD v)),.d (.l w.length (itsD w))] [] fun x σ=>x=bv (decide (v=w))∧σ=[]:=by
 refine AC.wk Tryz.func146 ?_
 by_cases hl:v.length=w.length
 case neg=>
  have hc:decide (v=w)=false:=by simp;rintro rfl;exact hl rfl
  focus (have kxs:=hc;(repeat' (first|(refine ADr.nil ?_;try clear hgv)|refine GO ?_|refine AW.ret ?_|(refine GC ?_ ?_<;>intro h<;>(try simp only [hsB] at h)<;>try exact xf)|(refine GD ?_ ?_<;>intro h<;>(try intro hgv)<;>(try simp only [hsN] at h)<;>(try simp only [h])<;>(try simp only [hsB] at h)<;>try exact xf)|(refine GL ?_ ?_<;>intro h<;>(try simp only [hsN] at h)<;>(try simp only [h])<;>(try simp only [hsB] at h)<;>try exact xf)|fail));all_goals clear kxs)
  all_goals first|(exfalso;omega)|((all_goals have kxf:=hc;first|exact RetQ.xr 0|exact RetQ.xn 0|fail);done)
 focus ((repeat' (first|(refine ADr.nil ?_;try clear hgv)|refine GO ?_|refine AW.ret ?_|(refine GC ?_ ?_<;>intro h<;>(try simp only [hsB] at h)<;>try exact xf)|(refine GD ?_ ?_<;>intro h<;>(try intro hgv)<;>(try simp only [hsN] at h)<;>(try simp only [h])<;>(try simp only [hsB] at h)<;>try exact xf)|(refine GL ?_ ?_<;>intro h<;>(try simp only [hsN] at h)<;>(try simp only [h])<;>(try simp only [hsB] at h)<;>try exact xf)|fail)))
 refine AW.rounds [0,1,4,12,13] (fun i:Nat=>[(0,.d (.l v.length (itsD v))),(1,.d (.l w.length (itsD w))),(4,bv false),(12,iv .i64 v.length),(13,iv .i64 i)]) (fun _=>[])
  (fun i=>i≤v.length∧(v=w↔v.drop i=w.drop i)) (fun i=>v.length-i) 0 ⟨Nat.zero_le _,by simp⟩ rfl rfl (fun _ _=>Nat.zero_le _) (fun _ _=>rfl) (fun _ _=>rfl) ?_
 rintro i ⟨hi,hr⟩ J hJ
 by_cases hil:i<v.length
 ·obtain ⟨x,r,hd⟩:=next_at hil
  obtain ⟨y,s,he⟩:=next_at (l:=w) (i:=i) (by omega)
  have hcd:=its_drop hd
  have hce:=its_drop he
  focus (have kxs:=And.intro hcd hce;(repeat' (first|(refine ADr.nil ?_;try clear hgv)|refine GO ?_|refine AW.ret ?_|(refine GC ?_ ?_<;>intro h<;>(try simp only [hsB] at h)<;>try exact xf)|(refine GD ?_ ?_<;>intro h<;>(try intro hgv)<;>(try simp only [hsN] at h)<;>(try simp only [h])<;>(try simp only [hsB] at h)<;>try exact xf)|(refine GL ?_ ?_<;>intro h<;>(try simp only [hsN] at h)<;>(try simp only [h])<;>(try simp only [hsB] at h)<;>try exact xf)|fail));all_goals clear kxs)
  ·have hn:¬ v=w:=by
     rw [hr,hd,he]
     intro e
     obtain ⟨rfl,_⟩:=List.cons.inj e
     simp at h
   have hc:decide (v=w)=false:=by simp [hn]
   rw [hc]
   (all_goals first|exact RetQ.fr 0|exact RetQ.fn 0|fail)
  ·refine hJ (i+1) _ _ (by omega) ⟨hil,?_⟩ rfl rfl
   have hxy:x=y:=Prod.ext h.1 h.2
   rw [hr,next_drop hd,next_drop he,hd,he,hxy]
   simp
 ·focus ((repeat' (first|(refine ADr.nil ?_;try clear hgv)|refine GO ?_|refine AW.ret ?_|(refine GC ?_ ?_<;>intro h<;>(try simp only [hsB] at h)<;>try exact xf)|(refine GD ?_ ?_<;>intro h<;>(try intro hgv)<;>(try simp only [hsN] at h)<;>(try simp only [h])<;>(try simp only [hsB] at h)<;>try exact xf)|(refine GL ?_ ?_<;>intro h<;>(try simp only [hsN] at h)<;>(try simp only [h])<;>(try simp only [hsB] at h)<;>try exact xf)|fail)))
  have hc:decide (v=w)=true:=by
   simp only [decide_eq_true_eq]
   rw [hr,List.drop_eq_nil_of_le (by omega),List.drop_eq_nil_of_le (by omega)]
  rw [hc]
  (all_goals first|exact RetQ.fr 0|exact RetQ.fn 0|fail)
theorem slices_EqualSl(v w:List Sl)(hv:v.length≤9223372036854775807):AC Tryz.prog 145 [.d (.l v.length (slsD v)),.d (.l w.length (slsD w))] [] fun x σ=>x=bv (decide (v=w))∧σ=[]:=by
 refine AC.wk Tryz.func145 ?_
 by_cases hl:v.length=w.length
 case neg=>
  have hc:decide (v=w)=false:=by simp;rintro rfl;exact hl rfl
  focus (have kxs:=hc;(repeat' (first|(refine ADr.nil ?_;try clear hgv)|refine GO ?_|refine AW.ret ?_|(refine GC ?_ ?_<;>intro h<;>(try simp only [hsB] at h)<;>try exact xf)|(refine GD ?_ ?_<;>intro h<;>(try intro hgv)<;>(try simp only [hsN] at h)<;>(try simp only [h])<;>(try simp only [hsB] at h)<;>try exact xf)|(refine GL ?_ ?_<;>intro h<;>(try simp only [hsN] at h)<;>(try simp only [h])<;>(try simp only [hsB] at h)<;>try exact xf)|fail));all_goals clear kxs)
  all_goals first|(exfalso;omega)|((all_goals have kxf:=hc;first|exact RetQ.xr 0|exact RetQ.xn 0|fail);done)
 focus ((repeat' (first|(refine ADr.nil ?_;try clear hgv)|refine GO ?_|refine AW.ret ?_|(refine GC ?_ ?_<;>intro h<;>(try simp only [hsB] at h)<;>try exact xf)|(refine GD ?_ ?_<;>intro h<;>(try intro hgv)<;>(try simp only [hsN] at h)<;>(try simp only [h])<;>(try simp only [hsB] at h)<;>try exact xf)|(refine GL ?_ ?_<;>intro h<;>(try simp only [hsN] at h)<;>(try simp only [h])<;>(try simp only [hsB] at h)<;>try exact xf)|fail)))
 refine AW.rounds [0,1,4,12,13] (fun i:Nat=>[(0,.d (.l v.length (slsD v))),(1,.d (.l w.length (slsD w))),(4,bv false),(12,iv .i64 v.length),(13,iv .i64 i)]) (fun _=>[])
  (fun i=>i≤v.length∧(v=w↔v.drop i=w.drop i)) (fun i=>v.length-i) 0 ⟨Nat.zero_le _,by simp⟩ rfl rfl (fun _ _=>Nat.zero_le _) (fun _ _=>rfl) (fun _ _=>rfl) ?_
 rintro i ⟨hi,hr⟩ J hJ
 by_cases hil:i<v.length
 ·obtain ⟨x,r,hd⟩:=next_at hil
  obtain ⟨y,s,he⟩:=next_at (l:=w) (i:=i) (by omega)
  have hcd:=sls_drop hd
  have hce:=sls_drop he
  focus (have kxs:=And.intro hcd hce;(repeat' (first|(refine ADr.nil ?_;try clear hgv)|refine GO ?_|refine AW.ret ?_|(refine GC ?_ ?_<;>intro h<;>(try simp only [hsB] at h)<;>try exact xf)|(refine GD ?_ ?_<;>intro h<;>(try intro hgv)<;>(try simp only [hsN] at h)<;>(try simp only [h])<;>(try simp only [hsB] at h)<;>try exact xf)|(refine GL ?_ ?_<;>intro h<;>(try simp only [hsN] at h)<;>(try simp only [h])<;>(try simp only [hsB] at h)<;>try exact xf)|fail));all_goals clear kxs)
  ·have hn:¬ v=w:=by
     rw [hr,hd,he]
     intro e
     obtain ⟨rfl,_⟩:=List.cons.inj e
     simp at h
   have hc:decide (v=w)=false:=by simp [hn]
   rw [hc]
   (all_goals first|exact RetQ.fr 0|exact RetQ.fn 0|fail)
  ·refine hJ (i+1) _ _ (by omega) ⟨hil,?_⟩ rfl rfl
   have hxy:x=y:=Prod.ext (by omega) h.2
   rw [hr,next_drop hd,next_drop he,hd,he,hxy]
   simp
 ·focus ((repeat' (first|(refine ADr.nil ?_;try clear hgv)|refine GO ?_|refine AW.ret ?_|(refine GC ?_ ?_<;>intro h<;>(try simp only [hsB] at h)<;>try exact xf)|(refine GD ?_ ?_<;>intro h<;>(try intro hgv)<;>(try simp only [hsN] at h)<;>(try simp only [h])<;>(try simp only [hsB] at h)<;>try exact xf)|(refine GL ?_ ?_<;>intro h<;>(try simp only [hsN] at h)<;>(try simp only [h])<;>(try simp only [hsB] at h)<;>try exact xf)|fail)))
  have hc:decide (v=w)=true:=by
   simp only [decide_eq_true_eq]
   rw [hr,List.drop_eq_nil_of_le (by omega),List.drop_eq_nil_of_le (by omega)]
  rw [hc]
  (all_goals first|exact RetQ.fr 0|exact RetQ.fn 0|fail)
theorem page_Same(a b:Pg)(ha:a.slots.length≤9223372036854775807)(hb:a.items.length≤9223372036854775807):AC Tryz.prog 90 [pgV a,pgV b] [] fun y σ=>y=bv (decide (a=b))∧σ=[]:=by
 refine AC.wk Tryz.func90 ?_
 obtain ⟨pre,leaf,slots,items⟩:=a
 obtain ⟨pre',leaf',slots',items'⟩:=b
 simp only at ha hb ⊢
 have h3:=slices_EqualSl slots slots' ha
 have h4:=slices_EqualIt items items' hb
 have no:∀ h:¬ (pre=pre'∧leaf=leaf'∧slots=slots'∧items=items'),decide ((⟨pre,leaf,slots,items⟩:Pg)=⟨pre',leaf',slots',items'⟩)=false:=fun h=>by
  apply decide_eq_false
  intro e
  injection e with e1 e2 e3 e4
  exact h ⟨e1,e2,e3,e4⟩
 by_cases c1:pre=pre'
 case neg=>
  rw [no (fun h=>c1 h.1)]
  exact Wd0
 subst c1
 by_cases c2:leaf=leaf'
 case neg=>
  rw [no (fun h=>c2 h.2.1)]
  have h2':leaf'=!leaf:=by cases leaf<;>cases leaf'<;>simp_all
  subst h2'
  cases leaf<;>
  (focus ((repeat' (first|refine G ?_|refine AW.ret ?_|(refine GC ?_ ?_<;>intro h<;>(try simp only [hsB] at h)<;>try exact xf)|(refine GL ?_ ?_<;>intro h<;>(try simp only [hsN] at h)<;>(try simp only [h])<;>(try simp only [hsB] at h)<;>try exact xf)|fail))))
  all_goals first|exact RetQ.fr 0|exact RetQ.fn 0|exact xg
 subst c2
 by_cases c3:slots=slots'
 case neg=>
  rw [no (fun h=>c3 h.2.2.1)]
  rw [decide_eq_false c3] at h3
  cases leaf<;>
  (focus (have kk1:=uN [] h3;(repeat' (first|refine G ?_|refine AW.ret ?_|(refine GC ?_ ?_<;>intro h<;>(try simp only [hsB] at h)<;>try exact xf)|(refine GL ?_ ?_<;>intro h<;>(try simp only [hsN] at h)<;>(try simp only [h])<;>(try simp only [hsB] at h)<;>try exact xf)|fail));all_goals clear kk1))
  all_goals first|exact RetQ.fr 0|exact RetQ.fn 0|exact xg
 subst c3
 rw [decide_eq_true rfl] at h3
 by_cases c4:items=items'
 case neg=>
  rw [no (fun h=>c4 h.2.2.2)]
  rw [decide_eq_false c4] at h4
  cases leaf<;>
  (focus (have kk1:=uN [] h3;have kk2:=uN [] h4;(repeat' (first|refine G ?_|refine AW.ret ?_|(refine GC ?_ ?_<;>intro h<;>(try simp only [hsB] at h)<;>try exact xf)|(refine GL ?_ ?_<;>intro h<;>(try simp only [hsN] at h)<;>(try simp only [h])<;>(try simp only [hsB] at h)<;>try exact xf)|fail));all_goals clear kk1 kk2))
  all_goals first|exact RetQ.fr 0|exact RetQ.fn 0|exact xg
 subst c4
 rw [decide_eq_true rfl] at h4
 rw [decide_eq_true rfl]
 cases leaf<;>
 (focus (have kk1:=uN [] h3;have kk2:=uN [] h4;(repeat' (first|refine G ?_|refine AW.ret ?_|(refine GC ?_ ?_<;>intro h<;>(try simp only [hsB] at h)<;>try exact xf)|(refine GL ?_ ?_<;>intro h<;>(try simp only [hsN] at h)<;>(try simp only [h])<;>(try simp only [hsB] at h)<;>try exact xf)|fail));all_goals clear kk1 kk2))
 all_goals first|exact RetQ.fr 0|exact RetQ.fn 0|exact xg
theorem msg_Same(m n:Mg)(hm:m.fits)(hn:n.fits):AC Tryz.prog 25 [mgV m,mgV n] [] fun y σ=>y=bv (decide (m=n))∧σ=[]:=by
 refine AC.wk Tryz.func25 ?_
 obtain ⟨m1,m2,_,f1,f2,f3,f4,_,_,f5,f6,m3,_⟩:=hm
 obtain ⟨n1,n2,_,_,_,_,_,_,_,_,_,n3,_⟩:=hn
 obtain ⟨knd,id,key,fnd,⟨okey,osibs⟩,old,ctx,mt,dd,vl,px,pg,rg,cd,tx⟩:=m
 obtain ⟨knd',id',key',fnd',⟨okey',osibs'⟩,old',ctx',mt',dd',vl',px',pg',rg',cd',tx'⟩:=n
 simp only at m1 m2 m3 n1 n2 n3 f1 f2 f3 f4 f5 f6
 have s1:=slices_EqualFuncSb osibs osibs' f1.2.1 (Oj.fits_len f1)
 have s2:=legacy_Same old old' f2
 have s3:=vector_Same ctx ctx' f3.1
 have s4:=pairs_Same mt mt' f4.1
 have s5:=page_Same pg pg' f5.2.1.1 f5.2.2.1
 have s6:=ring_Same rg rg' f6.1 (fun x hx=>(f6.2 x hx).2.2)
 have no:∀ h:¬ (knd=knd'∧id=id'∧key=key'∧fnd=fnd'∧okey=okey'∧osibs=osibs'∧old=old'∧ctx=ctx'∧mt=mt'∧dd=dd'∧vl=vl'∧px=px'∧pg=pg'∧rg=rg'∧cd=cd'∧tx=tx'),decide ((⟨knd,id,key,fnd,⟨okey,osibs⟩,old,ctx,mt,dd,vl,px,pg,rg,cd,tx⟩:Mg)=⟨knd',id',key',fnd',⟨okey',osibs'⟩,old',ctx',mt',dd',vl',px',pg',rg',cd',tx'⟩)=false:=fun h=>by
  apply decide_eq_false
  intro e
  injection e with e1 e2 e3 e4 e5 e6 e7 e8 e9 e10 e11 e12 e13 e14 e15
  injection e5 with e5a e5b
  exact h ⟨e1,e2,e3,e4,e5a,e5b,e6,e7,e8,e9,e10,e11,e12,e13,e14,e15⟩
 by_cases c_knd:knd=knd'
 case neg=>
  rw [no (fun h=>c_knd (h.1))]
  exact Wd0
 subst c_knd
 by_cases c_id:id=id'
 case neg=>
  rw [no (fun h=>c_id (h.2.1))]
  exact Wd0
 subst c_id
 by_cases c_key:key=key'
 case neg=>
  rw [no (fun h=>c_key (h.2.2.1))]
  exact Wd0
 subst c_key
 by_cases c_fnd:fnd=fnd'
 case neg=>
  rw [no (fun h=>c_fnd (h.2.2.2.1))]
  have hb:fnd'=!fnd:=by cases fnd<;>cases fnd'<;>simp_all
  subst hb
  cases fnd<;>
  (focus ((repeat' (first|refine G ?_|refine AW.ret ?_|(refine GC ?_ ?_<;>intro h<;>(try simp only [hsB] at h)<;>try exact xf)|(refine GL ?_ ?_<;>intro h<;>(try simp only [hsN] at h)<;>(try simp only [h])<;>(try simp only [hsB] at h)<;>try exact xf)|fail))))
  all_goals first|exact RetQ.fr 0|exact RetQ.fn 0|exact xg
 subst c_fnd
 by_cases c_okey:okey=okey'
 case neg=>
  rw [no (fun h=>c_okey (h.2.2.2.2.1))]
  exact Wd0
 subst c_okey
 by_cases c_osibs:osibs=osibs'
 case neg=>
  rw [no (fun h=>c_osibs (h.2.2.2.2.2.1))]
  rw [decide_eq_false c_osibs] at s1
  (have kk1:=uN [] s1;exact Wd0)
 subst c_osibs
 rw [decide_eq_true rfl] at s1
 by_cases c_old:old=old'
 case neg=>
  rw [no (fun h=>c_old (h.2.2.2.2.2.2.1))]
  rw [decide_eq_false c_old] at s2
  (have kk1:=uN [] s1;have kk2:=uN [] s2;exact Wd0)
 subst c_old
 rw [decide_eq_true rfl] at s2
 by_cases c_ctx:ctx=ctx'
 case neg=>
  rw [no (fun h=>c_ctx (h.2.2.2.2.2.2.2.1))]
  rw [decide_eq_false c_ctx] at s3
  (have kk1:=uN [] s1;have kk2:=uN [] s2;have kk3:=uN [] s3;exact Wd0)
 subst c_ctx
 rw [decide_eq_true rfl] at s3
 by_cases c_mt:mt=mt'
 case neg=>
  rw [no (fun h=>c_mt (h.2.2.2.2.2.2.2.2.1))]
  rw [decide_eq_false c_mt] at s4
  (have kk1:=uN [] s1;have kk2:=uN [] s2;have kk3:=uN [] s3;have kk4:=uN [] s4;exact Wd0)
 subst c_mt
 rw [decide_eq_true rfl] at s4
 by_cases c_dd:dd=dd'
 case neg=>
  rw [no (fun h=>c_dd (h.2.2.2.2.2.2.2.2.2.1))]
  have hb:dd'=!dd:=by cases dd<;>cases dd'<;>simp_all
  subst hb
  cases dd<;>
  (focus (have kk1:=uN [] s1;have kk2:=uN [] s2;have kk3:=uN [] s3;have kk4:=uN [] s4;(repeat' (first|refine G ?_|refine AW.ret ?_|(refine GC ?_ ?_<;>intro h<;>(try simp only [hsB] at h)<;>try exact xf)|(refine GL ?_ ?_<;>intro h<;>(try simp only [hsN] at h)<;>(try simp only [h])<;>(try simp only [hsB] at h)<;>try exact xf)|fail));all_goals clear kk1 kk2 kk3 kk4))
  all_goals first|exact RetQ.fr 0|exact RetQ.fn 0|exact xg
 subst c_dd
 by_cases c_vl:vl=vl'
 case neg=>
  rw [no (fun h=>c_vl (h.2.2.2.2.2.2.2.2.2.2.1))]
  (have kk1:=uN [] s1;have kk2:=uN [] s2;have kk3:=uN [] s3;have kk4:=uN [] s4;exact Wd0)
 subst c_vl
 by_cases c_px:px=px'
 case neg=>
  rw [no (fun h=>c_px (h.2.2.2.2.2.2.2.2.2.2.2.1))]
  (have kk1:=uN [] s1;have kk2:=uN [] s2;have kk3:=uN [] s3;have kk4:=uN [] s4;exact Wd0)
 subst c_px
 by_cases c_pg:pg=pg'
 case neg=>
  rw [no (fun h=>c_pg (h.2.2.2.2.2.2.2.2.2.2.2.2.1))]
  rw [decide_eq_false c_pg] at s5
  (have kk1:=uN [] s1;have kk2:=uN [] s2;have kk3:=uN [] s3;have kk4:=uN [] s4;have kk5:=uN [] s5;exact Wd0)
 subst c_pg
 rw [decide_eq_true rfl] at s5
 by_cases c_rg:rg=rg'
 case neg=>
  rw [no (fun h=>c_rg (h.2.2.2.2.2.2.2.2.2.2.2.2.2.1))]
  rw [decide_eq_false c_rg] at s6
  (have kk1:=uN [] s1;have kk2:=uN [] s2;have kk3:=uN [] s3;have kk4:=uN [] s4;have kk5:=uN [] s5;have kk6:=uN [] s6;exact Wd0)
 subst c_rg
 rw [decide_eq_true rfl] at s6
 by_cases c_cd:cd=cd'
 case neg=>
  rw [no (fun h=>c_cd (h.2.2.2.2.2.2.2.2.2.2.2.2.2.2.1))]
  (have kk1:=uN [] s1;have kk2:=uN [] s2;have kk3:=uN [] s3;have kk4:=uN [] s4;have kk5:=uN [] s5;have kk6:=uN [] s6;exact Wd0)
 subst c_cd
 by_cases c_tx:tx=tx'
 case neg=>
  rw [no (fun h=>c_tx (h.2.2.2.2.2.2.2.2.2.2.2.2.2.2.2))]
  (have kk1:=uN [] s1;have kk2:=uN [] s2;have kk3:=uN [] s3;have kk4:=uN [] s4;have kk5:=uN [] s5;have kk6:=uN [] s6;exact Wd0)
 subst c_tx
 rw [decide_eq_true rfl]
 (have kk1:=uN [] s1;have kk2:=uN [] s2;have kk3:=uN [] s3;have kk4:=uN [] s4;have kk5:=uN [] s5;have kk6:=uN [] s6;exact Wd0)
theorem ref23_Same(m n:Mg)(hm:m.fits)(hn:n.fits):AC Tryz.prog 11 [mgV m,mgV n] [] fun y σ=>y=bv (decide (m=n))∧σ=[]:=by
 refine AC.wk Tryz.func11 ?_
 obtain ⟨m1,m2,_,f1,f2,f3,f4,_,_,f5,f6,m3,_⟩:=hm
 obtain ⟨n1,n2,_,_,_,_,_,_,_,_,_,n3,_⟩:=hn
 obtain ⟨knd,id,key,fnd,⟨okey,osibs⟩,old,ctx,mt,dd,vl,px,pg,rg,cd,tx⟩:=m
 obtain ⟨knd',id',key',fnd',⟨okey',osibs'⟩,old',ctx',mt',dd',vl',px',pg',rg',cd',tx'⟩:=n
 simp only at m1 m2 m3 n1 n2 n3 f1 f2 f3 f4 f5 f6
 have s1:=ref16_Same ⟨okey,osibs⟩ ⟨okey',osibs'⟩ f1.2.1 (Oj.fits_len f1)
 have s2:=ref17_Same old old' f2
 have s3:=ref10_Same ctx ctx' f3.1
 have s4:=ref14_Same mt mt' f4.1
 have s5:=ref20_Same pg pg' f5.2.1.1 f5.2.2.1
 have s6:=ref22_Same rg rg' f6.1 (fun x hx=>(f6.2 x hx).2.2)
 have no:∀ h:¬ (knd=knd'∧id=id'∧key=key'∧fnd=fnd'∧okey=okey'∧osibs=osibs'∧old=old'∧ctx=ctx'∧mt=mt'∧dd=dd'∧vl=vl'∧px=px'∧pg=pg'∧rg=rg'∧cd=cd'∧tx=tx'),decide ((⟨knd,id,key,fnd,⟨okey,osibs⟩,old,ctx,mt,dd,vl,px,pg,rg,cd,tx⟩:Mg)=⟨knd',id',key',fnd',⟨okey',osibs'⟩,old',ctx',mt',dd',vl',px',pg',rg',cd',tx'⟩)=false:=fun h=>by
  apply decide_eq_false
  intro e
  injection e with e1 e2 e3 e4 e5 e6 e7 e8 e9 e10 e11 e12 e13 e14 e15
  injection e5 with e5a e5b
  exact h ⟨e1,e2,e3,e4,e5a,e5b,e6,e7,e8,e9,e10,e11,e12,e13,e14,e15⟩
 by_cases c_knd:knd=knd'
 case neg=>
  rw [no (fun h=>c_knd (h.1))]
  exact Wd0
 subst c_knd
 by_cases c_id:id=id'
 case neg=>
  rw [no (fun h=>c_id (h.2.1))]
  exact Wd0
 subst c_id
 by_cases c_key:key=key'
 case neg=>
  rw [no (fun h=>c_key (h.2.2.1))]
  exact Wd0
 subst c_key
 by_cases c_fnd:fnd=fnd'
 case neg=>
  rw [no (fun h=>c_fnd (h.2.2.2.1))]
  have hb:fnd'=!fnd:=by cases fnd<;>cases fnd'<;>simp_all
  subst hb
  cases fnd<;>
  (focus ((repeat' (first|refine G ?_|refine AW.ret ?_|(refine GC ?_ ?_<;>intro h<;>(try simp only [hsB] at h)<;>try exact xf)|(refine GL ?_ ?_<;>intro h<;>(try simp only [hsN] at h)<;>(try simp only [h])<;>(try simp only [hsB] at h)<;>try exact xf)|fail))))
  all_goals first|exact RetQ.fr 0|exact RetQ.fn 0|exact xg
 subst c_fnd
 by_cases c_dd:dd=dd'
 case neg=>
  rw [no (fun h=>c_dd (h.2.2.2.2.2.2.2.2.2.1))]
  have hb:dd'=!dd:=by cases dd<;>cases dd'<;>simp_all
  subst hb
  cases dd<;>
  (focus ((repeat' (first|refine G ?_|refine AW.ret ?_|(refine GC ?_ ?_<;>intro h<;>(try simp only [hsB] at h)<;>try exact xf)|(refine GL ?_ ?_<;>intro h<;>(try simp only [hsN] at h)<;>(try simp only [h])<;>(try simp only [hsB] at h)<;>try exact xf)|fail))))
  all_goals first|exact RetQ.fr 0|exact RetQ.fn 0|exact xg
 subst c_dd
 by_cases c_vl:vl=vl'
 case neg=>
  rw [no (fun h=>c_vl (h.2.2.2.2.2.2.2.2.2.2.1))]
  exact Wd0
 subst c_vl
 by_cases c_px:px=px'
 case neg=>
  rw [no (fun h=>c_px (h.2.2.2.2.2.2.2.2.2.2.2.1))]
  exact Wd0
 subst c_px
 by_cases c_cd:cd=cd'
 case neg=>
  rw [no (fun h=>c_cd (h.2.2.2.2.2.2.2.2.2.2.2.2.2.2.1))]
  exact Wd0
 subst c_cd
 by_cases c_tx:tx=tx'
 case neg=>
  rw [no (fun h=>c_tx (h.2.2.2.2.2.2.2.2.2.2.2.2.2.2.2))]
  exact Wd0
 subst c_tx
 by_cases c_obj:(⟨okey,osibs⟩:Oj)=⟨okey',osibs'⟩
 case neg=>
  rw [no (fun h=>c_obj (by rw [h.2.2.2.2.1,h.2.2.2.2.2.1]))]
  rw [decide_eq_false c_obj] at s1
  (have kk1:=uN [] s1;exact Wd0)
 obtain ⟨rfl,rfl⟩:okey=okey'∧osibs=osibs':=by injection c_obj with e1 e2;exact ⟨e1,e2⟩
 rw [decide_eq_true rfl] at s1
 by_cases c_old:old=old'
 case neg=>
  rw [no (fun h=>c_old (h.2.2.2.2.2.2.1))]
  rw [decide_eq_false c_old] at s2
  (have kk1:=uN [] s1;have kk2:=uN [] s2;exact Wd0)
 subst c_old
 rw [decide_eq_true rfl] at s2
 by_cases c_ctx:ctx=ctx'
 case neg=>
  rw [no (fun h=>c_ctx (h.2.2.2.2.2.2.2.1))]
  rw [decide_eq_false c_ctx] at s3
  (have kk1:=uN [] s1;have kk2:=uN [] s2;have kk3:=uN [] s3;exact Wd0)
 subst c_ctx
 rw [decide_eq_true rfl] at s3
 by_cases c_mt:mt=mt'
 case neg=>
  rw [no (fun h=>c_mt (h.2.2.2.2.2.2.2.2.1))]
  rw [decide_eq_false c_mt] at s4
  (have kk1:=uN [] s1;have kk2:=uN [] s2;have kk3:=uN [] s3;have kk4:=uN [] s4;exact Wd0)
 subst c_mt
 rw [decide_eq_true rfl] at s4
 by_cases c_pg:pg=pg'
 case neg=>
  rw [no (fun h=>c_pg (h.2.2.2.2.2.2.2.2.2.2.2.2.1))]
  rw [decide_eq_false c_pg] at s5
  (have kk1:=uN [] s1;have kk2:=uN [] s2;have kk3:=uN [] s3;have kk4:=uN [] s4;have kk5:=uN [] s5;exact Wd0)
 subst c_pg
 rw [decide_eq_true rfl] at s5
 by_cases c_rg:rg=rg'
 case neg=>
  rw [no (fun h=>c_rg (h.2.2.2.2.2.2.2.2.2.2.2.2.2.1))]
  rw [decide_eq_false c_rg] at s6
  (have kk1:=uN [] s1;have kk2:=uN [] s2;have kk3:=uN [] s3;have kk4:=uN [] s4;have kk5:=uN [] s5;have kk6:=uN [] s6;exact Wd0)
 subst c_rg
 rw [decide_eq_true rfl] at s6
 rw [decide_eq_true rfl]
 (have kk1:=uN [] s1;have kk2:=uN [] s2;have kk3:=uN [] s3;have kk4:=uN [] s4;have kk5:=uN [] s5;have kk6:=uN [] s6;exact Wd0)
end Go.AW
